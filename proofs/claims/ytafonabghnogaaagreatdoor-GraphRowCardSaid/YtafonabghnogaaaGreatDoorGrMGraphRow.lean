/-
  huddlelaw12.GraphRow: whatever row operations come in, each behind its parents, the graph is the same; one ahead of a parent is refused, and lacks it.
    Conditions: op.kinds lies as its text lays it; the numbers read.
  GraphRow: whatever the input is, where the one listed variable is as its text lays it, the law returns true, and nothing that was there has turned.
    Condition: none.
  GraphRow: the tied card.
    Condition: none.
-/
import Derived.ChangeVars
import Derived.JoinedOf
import Derived.RowKitTokens
import Derived.LaidLaws
import Derived.Test.YtafonabghnogaaaGreatDoorTie
import Derived.Test.YtafonabghnogaaaGreatDoorCards
import Derived.SevenTiedAt
import Derived.Test.YtafonabghnogaaaGreatDoorGrM1
import Derived.Test.YtafonabghnogaaaGreatDoorGrM4
import Derived.Test.YtafonabghnogaaaGreatDoorGrM7
import Derived.Test.YtafonabghnogaaaGreatDoorGrM16
import Derived.Test.YtafonabghnogaaaGreatDoorGrM17
import Derived.Test.YtafonabghnogaaaGreatDoorGrM18
set_option maxRecDepth 100000
set_option maxHeartbeats 16000000
open Bool renaming false_ne_true→Am3
open List renaming length_map→Al1,flatMap_append→Al3,length_take→Al4,mem_of_mem_take→Al5,getElem?_eq_getElem→Al7,mem_of_getElem?→Al8,take_append_drop→Al9,mem_map_of_mem→Am1,getElem?_map→Am2
open Nat renaming le_trans→Al2,zero_add→Al6,lt_of_lt_of_le→Am0
namespace Go.Proofs.YtafonabghnogaaaGreatDoor
section
open Go.RowKit
attribute [local go_sem ↓] Go.wp_at_zero Go.wp_at_succ
namespace Oq
attribute [local go_sem ↓] Ci Ef
attribute [local go_sem] Bool.not_false Bool.not_true
attribute [local go_sem ↓] Ew Mf
theorem Mt (xs:List OpL):(xs.flatMap (fun x=>x.cells.toList)).length=xs.length*27:=by
 induction xs with
 |nil=>rfl
 |cons x r ih=>
  have hx:x.cells.toList.length=27:=rfl
  rw [List.flatMap_cons,List.length_append,ih,hx,List.length_cons]
  omega
theorem Ak4 (xs:List OpL) (n:Nat) (hn:n≤xs.length):(xs.flatMap (fun x=>x.cells.toList)).take (n*27)=(xs.take n).flatMap (fun x=>x.cells.toList):=by
 conv=>lhs;rw [← Al9 n xs,Al3]
 rw [List.take_left']
 rw [Mt,Al4,Nat.min_eq_left hn]
theorem Ak5 (xs:List OpL) (n:Nat) (hn:n≤xs.length):(xs.flatMap (fun x=>x.cells.toList)).drop (n*27)=(xs.drop n).flatMap (fun x=>x.cells.toList):=by
 conv=>lhs;rw [← Al9 n xs,Al3]
 rw [List.drop_left']
 rw [Mt,Al4,Nat.min_eq_left hn]
theorem St {α β:Type} (f:α→β):∀(l:List α) (n:Nat),(l.eraseIdx n).map f=(l.map f).eraseIdx n
 |[],_=>rfl
 |_::_,0=>rfl
 |a::r,n+1=>by
  show f a::(r.eraseIdx n).map f=f a::(r.map f).eraseIdx n
  rw [St f r n]
def Su (cards:List Cd) (_:List Pn) (b gb:Nat) (q:Gph) (o:Op) (rd:Bool) (w:World) (e:Ending) (w':World):Prop:=
 e=.returned (.int .i64 (if rd=true then 0 else 10))∧∃q':Gph,Hid (GAt w' b q')∧Hid (q'.gb=gb)∧Hid (q'.cards=cards)∧Hid (q'.pns=if rd=true then q.pns++[Av q.pns o] else q.pns)∧Fr q.own w w'
theorem Ak6 {cards:List Cd} {l:List Pn} {left:List Op} {b gb:Nat} {q:Gph} {x:OpL} {w:World} (hq:GAt w b q) (hqb:q.gb=gb) (hqc:q.cards=cards) (hR:Ch cards l q.pns left) (hlen:l.length<200) (hx:x.op∈left) (hat:x.at w w.heap.size) (hok:x.op.ok) (hkn:KindsAt w):
  Calls Tryz.prog 17 #[.pointer (some ⟨gb,0,none⟩),.agg x.cells] w (Su cards l b gb q x.op (ready q.pns x.op) w):=by
 have he:=hR.err hlen hx
 subst hqb hqc
 cases hr:ready q.pns x.op with
 |true=>
  rw [hr,if_pos rfl] at he
  refine (Gd rfl hq hat hok hkn he rfl).mono ?_
  rintro e w' ⟨rfl,g',h1,h2,h3,h4,h5⟩
  exact ⟨rfl,g',h1,h2,h3,h4,h5⟩
 |false=>
  rw [hr,if_neg (by decide)] at he
  refine (Lv rfl hq hat hok hkn he (by decide)).mono ?_
  rintro e w' ⟨rfl,h1⟩
  exact ⟨rfl,q,hq.fr h1,rfl,rfl,rfl,Fr.of_non h1 _⟩
theorem Ak7 (l:List Ai):(fun id=> !(Ag l id).isSome)=(fun id=> !(plc (l.map Ai.pn) id).isSome):=by
 funext id
 rw [Es]
theorem Ak8 {m:List Pn} {o:Op}:((o.past.filter (fun id=> !(plc m id).isSome)).length=0)↔ready m o=true:=by
 unfold ready
 rw [Ai0,List.length_eq_zero_iff]
 cases o.past.filter (fun id=> !(plc m id).isSome)<;>simp
theorem graphRow_law (A:Option Addr) (c:Nat) (l0:List Int) (Ap:Option Addr) (cp:Nat) (lp:List Int) (w:World) (hk:KindsAt w)
  (hr:Rd w w.heap.size 1 A l0.length (l0.map Iv)) (hnc:l0.length≤c) (hnm:c≤9223372036854775807) (hok:∀x∈l0,I64 x)
  (hrp:Rd w w.heap.size 1 Ap lp.length (lp.map Iv)) (hpc:lp.length≤cp) (hpm:cp≤9223372036854775807) (hokp:∀x∈lp,I64 x):
  Calls Tryz.prog 4 #[.slice A l0.length c,.slice Ap lp.length cp] w (Af true w):=by
 have hi:(Tryz.prog.info? 44).map (·.size)=some OpL.zero.cells.size:=by rw [show OpL.zero.cells.size=27 from rfl];kernel_rfl
 have hi27:(Tryz.prog.info? 44).map (·.size)=some 27:=by kernel_rfl
 have hpos:0<w.heap.size:=World.block_lt_of_cell? w _ (hk 0 (by decide))
 have km:=Lib.hid (Aj3 w.heap.size l0.length c A l0 w rfl hr hnc hnm hok)
 have kof:=Lib.hid (fun (b:Nat) (r:RG) (w':World) (hf:Fr Non w w') (h:r.own w' b) (hcs:r.cards=Bg 0 [1,2,3,1])=>H5 b r w' h hcs (Am0 hpos hf.size) (hk.fr hf))
 have kin:Hid (∀w',Fr Non w w'→Calls Tryz.prog 24 #[.slice Ap lp.length cp,.int .i64 60] w' (fun e w''=>∃(pk:List Int) (np:Nat) (A:Option Addr) (c:Nat),e=.returned (.slice A np c)∧Hid (pk.length=np)∧np≤60∧(∀x∈pk,I64 x)∧Own w'' w'.heap.size 3 1 A np c (pk.map Iv)∧Fr Non w' w'')):=by
  intro w' hf
  refine Calls.mono (Uy w.heap.size lp.length cp Ap lp 60 w' rfl (hrp.fr hf zr) hpc hpm (by decide)) ?_
  rintro e w'' ⟨A,c,rfl,o,f⟩
  exact ⟨lp.take 60,_,A,c,rfl,rfl,by rw [Al4];omega,fun x hx=>hokp x (Al5 hx),o,f⟩
 have hlv:=fun (w':World) (hf:Fr Non w w')=>Ak3 w' (hk.fr hf)
 unfold Af at hlv
 replace hlv:=Lib.hid hlv
 have hfin:Hid (∀wz,Fr Non w wz→Af true w (.returned (.bool true)) wz):=fun wz h=>⟨rfl,h⟩
 generalize Af true w=POST at*
 obtain ⟨nl,hnl⟩:=Aa l0.length
 rw [hnl.out] at km ⊢
 obtain ⟨nq,hnq⟩:=Aa lp.length
 rw [hnq.out] at kin ⊢
 clear hr hnc hnm hok hrp hpc hpm hnl hnq
 go_enter Tryz.func4,Tryz.ntmps4
 go_upto_region 2 with (first|(go_at_call 12;(with_reducible refine (km.out).mono ?_);rintro _ w1 ⟨r,rfl,f1,ro,hcd,_,h14⟩;have bn:=Blk.new w1 32 zG;have hst:=Ck (P:=Tryz.prog) w1.heap.size 32 (cs:=r.cells) Dg (old:=zG) rfl (Ed r)))
 have bG:Blk ((w1.alloc (.cells zG 32)).setRow w1.heap.size r.cells) w1.heap.size 32 r.cells:=bn.setRow (cs:=r.cells)
 have fG:Fr Non w1 ((w1.alloc (.cells zG 32)).setRow w1.heap.size r.cells):=((Fr.refl Non w1).alloc _).setRow (fun hh=>absurd hh (by omega)) _
 have ro2:=ro.non fG
 have f02:=f1.trans fG zr
 obtain ⟨gv,hgv⟩:=Aa w1.heap.size
 rw [hgv.out] at bG ro2 f02 ⊢
 clear hst bn ro fG f1 km hgv
 generalize (w1.alloc (.cells zG 32)).setRow gv r.cells=w2 at*
 have hl:=Bd (P:=Tryz.prog) gv 32 Tryz.underlying32 rfl (cs:=r.cells) Dg
 go_upto_region 3 with (go_at_call 13;(with_reducible refine (kof.out _ r _ f02 ro2 hcd).mono ?_);rintro _ w3 ⟨g,b,rfl,hb3,hg,_,hgp,f3⟩)
 have bG3:=bG.fr f3 zq
 have ro3:=ro2.non f3
 have f03:=f02.trans f3 zr
 obtain ⟨gb,hgb⟩:=Aa g.gb
 rw [hgb.out]
 clear kof bG ro2 f02 f3
 have hn4:r.cards.length=4:=by rw [hcd,Kk];rfl
 have hr0:=ro3.cards.sl.rd
 rw [hn4,hcd] at hr0
 have c0:w3.cell? ⟨gv,0,none⟩=some (.slice r.cA 4 r.cC):=by rw [← hn4];exact bG3.cell 0
 have kn:=Lib.hid (Lu w3.heap.size 4 r.cC r.cA [1,2,3,1] w3 rfl (by decide) hr0 (Am0 hpos f03.size))
 clear hl hr0
 go_upto_region 4 with (go_at_call 23;(with_reducible refine (kn.out).mono ?_);rintro _ w4 ⟨h,rfl,hh,hhn,hhc,f4⟩)
 have bG4:=bG3.fr f4 zq
 have ro4:=ro3.non f4
 have f04:=f03.trans f4 zr
 obtain ⟨hb,hhb⟩:=Aa h.gb
 rw [hhb.out]
 obtain ⟨b4,hb4⟩:=Aa w3.heap.size
 have hb34:b4≤w4.heap.size:=by rw [← hb4.out];exact f4.size
 rw [hb4.out] at hh
 have k3:=hk.fr f03
 clear kn c0 bG3
 go_upto_region 7 with (go_at_call 24;(with_reducible refine (kin.out _ f04).mono ?_);rintro _ w6 ⟨pk,np,Aq,cq,rfl,hnp,hp60,hpi,oq,f6⟩)
 have bG6:=bG4.fr f6 zq
 have ro6:=ro4.non f6
 have f06:=f04.trans f6 zr
 have hh6:=hh.fr f6
 clear kin bG4 ro4 f04 hh hokp
 have q1:w6.cell? ⟨gv,1,none⟩=some (.slice r.lA r.l.length r.lC):=bG6.cell 1
 have hxl:r.xs.length=r.l.length:=by
  have:=congrArg List.length ro6.same
  rw [Al1,Al1] at this
  exact this
 have hopr:=ro6.ops.sl.rd
 rw [← hxl] at hopr q1
 have f36:Fr Non w3 w6:=f4.trans f6 zr
 have hrest:Hid (Ch r.cards r.l [] (r.xs.map OpL.op)):=⟨ro6.rows,.nil,by rw [ro6.same];exact List.Perm.refl _⟩
 have htry:Hid (Tried [] (r.xs.map OpL.op) 0):=⟨0,by omega,fun e=>absurd e (Nat.lt_irrefl 0)⟩
 have hxo:Hid (∀x∈r.xs,x.own w3 w.heap.size∧x.op.ok):=fun x hx=>⟨ro3.each x hx,by
  have h1:x.op∈r.l.map Pn.o:=by rw [← ro6.same];exact Am1 hx
  obtain ⟨n,hn,e⟩:=List.mem_map.1 h1
  rw [← e]
  exact (ro6.ok n hn).1⟩
 have hrows:=ro6.rows
 have hidok:∀n∈r.l,n.id.ok:=fun n hn=>(ro6.ok n hn).2
 have hhc':Hid (h.cards=r.cards):=hhc.trans hcd.symm
 have hpn:Hid (h.pns=[]):=by show _=_;unfold Gph.pns;rw [hhn];rfl
 have hl14:=h14
 replace h14:r.xs.length≤14:=by rw [hxl];exact h14
 clear hhc hhn hcd ro6 ro3 bG6 hk hn4 hpos f4 f6 f06
 generalize r.cards=CD at*
 generalize r.lA=LA at*
 generalize r.lC=LC at*
 generalize r.l=l at*
 generalize r.xs=X0 at*
 clear hxl
 obtain ⟨N0,hN0⟩:=Aa X0.length
 rw [hN0.out] at h14 hopr q1
 have nil6:=Own.empty w6 44 27
 have q1a:(w6.alloc (.cells #[] 44)).cell? ⟨gv,1,none⟩=some (.slice LA N0 LC):=((Fr.refl Non w6).alloc (.cells #[] 44)).cell q1 zq
 go_upto_region 8 with (first|(at_builtin;go_loud (refine Bb (base:=w6.heap.size) (.tmp 31) (.tmp 33) 27 rfl rfl rfl rfl E5 nil6 (hopr.alloc (.cells #[] 44)) (I8 X0) (by omega) (by omega) (by rw [World.size_alloc];omega) ?_);intro A7 c7 w7 own7 fr7 hat7))
 rw [Al6,List.nil_append] at own7
 have f67:Fr Non w6 w7:=((Fr.refl Non w6).alloc (.cells #[] 44)).trans fr7 (fun j hj e=>by have e':w6.heap.size=j:=Option.some.inj e;omega)
 have hh7:=hh6.fr f67
 have oq7:=oq.fr f67 zr
 have sz67:=f67.size
 have f37:Fr Non w3 w7:=f36.trans f67 zr
 clear fr7 hat7 nil6 hopr q1 q1a hh6 oq f36 f67
 go_wp2_with (fail)
 go_loopw [8,9] (fun s v wr=>∃(i:Nat) (q:Gph) (As:Option Addr) (cx:Nat) (xs:List OpL) (M:Nat),v=.int .i64 (i:Int)∧s=.slice As M cx∧i≤400∧M≤14∧Hid (xs.length=M)∧Hid (GAt wr b4 q)∧Hid (q.gb=hb)∧Hid (q.cards=CD)∧Hid (Ch CD l q.pns (xs.map OpL.op))∧Hid (Tried q.pns (xs.map OpL.op) i)∧Hid (∀x∈xs,x∈X0)∧Own wr w6.heap.size 44 27 As M cx (xs.flatMap (fun x=>x.cells.toList))∧Hid (Own wr w4.heap.size 3 1 Aq np cq (pk.map Iv))∧w6.heap.size≤wr.heap.size∧Fr Non w3 wr) (fun _ v _=>400-(intOf v).toNat)
 case atStart=>exact ⟨0,h,A7,c7,X0,N0,rfl,rfl,by omega,by omega,hN0.out,hh7,hhb.out,hhc'.out,by rw [hpn.out];exact hrest.out,by rw [hpn.out];exact htry.out,fun x hx=>hx,own7,oq7,sz67,f37⟩
 case round=>
 clear hh7 hhb hhc' hrest htry hpn own7 oq7 f37 sz67
 obtain ⟨i,q,As,cx,xs,M,rfl,rfl,hi4,hx14,hM,hq,hqb,hqc,hR,hT,hin,own,oq,hw6,hf⟩:=hrel
 by_cases hne:xs=[]
 case neg=>
  have hMp:0<M:=by rw [← hM.out];exact List.length_pos_iff.2 hne
  have hi400:i<400:=hT.out.few (by rw [Al1,hM.out];exact hx14) (fun e=>hne (List.map_eq_nil_iff.1 e))
  have t1:decide ((M:Int)>0)=true:=decide_eq_true (by omega)
  have t1':decide (0<M)=true:=decide_eq_true hMp
  have t2:decide ((i:Int)<400)=true:=decide_eq_true (by omega)
  have t2':decide (i<400)=true:=decide_eq_true hi400
  go_upto_region 12 with (fail)
  go_upto_if 47 with (fail)
  obtain ⟨BB,hBB⟩:=Aa (decide (i<np))
  have hBI:decide ((i:Int)<(np:Int))=BB:=by rw [← hBB.out];exact decide_eq_decide.2 (by omega)
  (try rw [hBB.out])
  (try rw [hBI])
  clear hBI
  go_cut [10] from 48 to 58 (fun s wc=>wr=wc∧∃n:Nat,s=.int .i64 (n:Int)∧n<M∧(60≤i→n=i%M))
  case first=>
   clear hq hqb hqc hR hT hin own hlv hfin hrows
   cases BB
   case true=>
    have hip:i<np:=of_decide_eq_true hBB.out
    obtain ⟨p,hp⟩:∃p,pk[i]? =some p:=⟨_,Al7 (by rw [hnp.out];exact hip)⟩
    obtain ⟨ba,oa,u,rfl,hbB,hu,c0⟩:=oq.out.rd.at hip
    rw [Am2,hp] at hu
    injection hu with hu
    subst hu
    replace c0:wr.cell? ⟨ba,oa+i,none⟩=some (.int .i64 p):=c0
    have hpo:=hpi p (Al8 hp)
    obtain ⟨ba1,ba2⟩:=Jj (n:=p) (m:=(M:Int)) (by omega)
    obtain ⟨n,hn⟩:∃n:Nat,C0 p (M:Int)=(n:Int):=⟨(C0 p (M:Int)).toNat,by omega⟩
    have kar:=Lib.hid (fun w'=>Jk p (M:Int) w' hpo.1 hpo.2 (by omega) (by omega))
    rw [hn] at kar ba2
    have i1:(0:Int)≤i:=by omega
    have i2:(i:Int)<np:=by omega
    have i3:(i:Int).toNat=i:=by omega
    go_wp2_with (go_at_call 25;(with_reducible refine (kar.out _).mono ?_);rintro _ wz ⟨rfl,rfl⟩)
    go_meet
    exact ⟨rfl,n,rfl,by omega,by omega⟩
   case false=>
    have hm:(i:Int).tmod (M:Int)=((i%M:Nat):Int):=by rw [Int.tmod_eq_emod_of_nonneg (by omega)];rfl
    have hm0:¬(M:Int)=0:=by omega
    have hmn:¬M=0:=by omega
    go_wp2_with (fail)
    go_meet
    exact ⟨rfl,i%M,rfl,Nat.mod_lt _ hMp,fun _=>rfl⟩
  case rest=>
  obtain ⟨rfl,n,rfl,hnM,hn60⟩:=hcut
  obtain ⟨x,hx⟩:∃x,xs[n]? =some x:=⟨_,Al7 (by rw [hM.out];exact hnM)⟩
  have hxm:=Al8 hx
  obtain ⟨xo,xok⟩:=hxo.out x (hin.out x hxm)
  have hrow:=own.row
  obtain ⟨bx,ox,rfl,hbx,hcx⟩:=El (f:=fun x:OpL=>x.cells.toList) (fun _=>rfl) (by omega) (n:=M) own.rd hx
  have hrg:World.rangeAt wr bx (ox+n*27) x.cells.toList:=fun k v hv=>hcx k (List.getElem?_eq_some_iff.1 hv).1 v hv
  have hlm:=Ku (P:=Tryz.prog) x.cells bx (ox+n*27) Tryz.underlying44 rfl hi27
  have hlm2:=hlm wr hrg
  have n1:(0:Int)≤n:=by omega
  have n2:(n:Int)<M:=by omega
  have n3:(n:Int).toNat=n:=by omega
  have bz:=Blk.new wr 44 OpL.zero.cells
  have honey:=Cr x
  have hxl27:OpL.zero.cells.size=x.cells.size:=rfl
  have hiX:(Tryz.prog.info? 44).map (·.size)=some x.cells.size:=hi
  obtain ⟨XC,hXC⟩:=Aa x.cells
  rw [hXC.out] at hrg hlm hlm2 honey hxl27 hiX
  go_upto_region 16 with (refine U4 rfl 44 (.tmp 11) (.tmp 62) rfl rfl rfl rfl bz hiX hxl27 honey ?_;intro wa hba hfa _)
  have fa:Fr Non wr wa:=((Fr.refl Non wr).alloc (.cells OpL.zero.cells 44)).trans hfa (fun k hk e=>by have e':k=wr.heap.size:=e;omega)
  have f3a:=hf.trans fa zr
  obtain ⟨RD,hRD⟩:=Aa (ready q.pns x.op)
  obtain ⟨go,hgo⟩:=Aa wr.heap.size
  have hgo3:w3.heap.size≤go:=by rw [← hgo.out];exact hf.size
  rw [hgo.out] at hba ⊢
  have hlo:=Bd (P:=Tryz.prog) go 44 Tryz.underlying44 rfl (cs:=XC) hiX
  have klk:Hid (∀w',Fr Non wa w'→Calls Tryz.prog 26 #[.pointer (some ⟨hb,0,none⟩),.agg XC] w' (fun e w''=>∃(A:Option Addr) (K c:Nat),e=.returned (.slice A K c)∧Hid (K=0↔RD=true)∧Fr Non w' w'')):=by
   intro w' hf'
   have:=Kv b4 q x w' Kw (hq.out.fr (fa.trans hf' zr)) (xo.non (f3a.trans hf' zr)).at xok.past.2 (Al2 xok.past.1 (by decide))
   rw [hqb.out,hXC.out] at this
   refine this.mono ?_
   rintro e w'' ⟨A,c,rfl,_,f⟩
   refine ⟨A,_,c,rfl,?_,f⟩
   rw [Ak7,← hRD.out]
   show _↔_
   exact Ak8 (m:=q.pns) (o:=x.op)
  have kad:Hid (∀w',Fr Non wa w'→Calls Tryz.prog 17 #[.pointer (some ⟨hb,0,none⟩),.agg XC] w' (Su CD l b4 hb q x.op RD w')):=by
   intro w' hf'
   have:=Ak6 (l:=l) (hq.out.fr (fa.trans hf' zr)) hqb.out hqc.out hR.out (by omega) (Am1 hxm) (xo.non (f3a.trans hf' zr)).at xok (k3.fr (f3a.trans hf' zr))
   rw [hXC.out,hRD.out] at this
   exact this
  clear hrg hlm hlm2 honey hxl27 hfa bz hi hcx
  go_upto_region 18 with (first
   |(go_at_call 26;(with_reducible refine (klk.out _ (Fr.refl Non wa)).mono ?_);rintro _ wb ⟨A12,K,c12,rfl,hKR,fb⟩;have hbb:=hba.fr fb zq)
   |(go_at_call 17;(with_reducible refine (kad.out _ fb).mono ?_);rintro _ wc ⟨rfl,q2,hq2,hq2b,hq2c,hq2p,fc⟩))
  have f3c:Fr Non w3 wc:=(f3a.trans fb zr).trans fc (fun k hk e=>by have:=hq.out.ge e;have:=hb4.out;omega)
  have frb:=fa.trans fb zr
  have tyq:=(hq.out.fr frb).types
  have ownc:=(own.fr frb zr).keepT fc tyq (by unfold Gty;decide)
  have oqc:=(oq.out.fr frb zr).keepT fc tyq (by unfold Gty;decide)
  have hrc:wr.heap.size≤wc.heap.size:=Al2 frb.size fc.size
  have hw6r:w6.heap.size≤wr.heap.size:=hw6
  clear klk kad hba hbb fa fb frb fc tyq f3a hlo own oq hq
  have hMl:xs.length=M:=hM.out
  have hkx:(xs.map OpL.op)[n]? =some x.op:=by rw [Am2,hx];rfl
  cases RD
  case false=>
   have hKn:¬K=0:=fun e=>by have:=hKR.out.1 e;cases this
   have tk:((K:Int)==0)=false:=by rw [beq_eq_false_iff_ne];omega
   have tk2:(K==0)=false:=by rw [beq_eq_false_iff_ne];exact hKn
   rw [if_neg Am3]
   have hqp:q2.pns=q.pns:=by rw [hq2p.out,if_neg Am3]
   have hT2:=Lib.hid (hT.out.miss hR.out (by rw [Al1];omega) hkx (by rw [Al1,hMl];exact hn60) hRD.out)
   have hR2:=hR.out
   rw [← hqp] at hR2
   have hT3:=hT2.out
   rw [← hqp] at hT3
   clear hT2 hT hR hqp hq2p hRD hKR
   replace hT3:=Lib.hid hT3
   replace hR2:=Lib.hid hR2
   go_wp2_with (fail)
   go_roundw
   case rel=>exact ⟨i+1,q2,some ⟨bx,ox,none⟩,cx,xs,M,by go_num,rfl,by omega,by omega,hMl,hq2.out,hq2b.out,hq2c.out,hR2.out,hT3.out,hin.out,ownc,oqc,Al2 hw6r hrc,f3c⟩
   case measure=>simp [intOf];omega
  case true=>
   have hK0:K=0:=hKR.out.2 rfl
   subst hK0
   rw [if_pos rfl]
   have hqp:q2.pns=q.pns++[Av q.pns x.op]:=by rw [hq2p.out,if_pos rfl]
   have hT2:Tried q2.pns ((xs.map OpL.op).eraseIdx n) (i+1):=hT.out.hit (by rw [Al1];omega) (by rw [Al1];omega)
   have hR2:=hR.out.take (by omega) hkx hRD.out
   rw [← hqp] at hR2
   rw [← St] at hT2 hR2
   clear hT hR hqp hq2p hRD hKR
   replace hT2:=Lib.hid hT2
   replace hR2:=Lib.hid hR2
   obtain ⟨hc1,hc2⟩:=ownc.cap
   have hww:IntKind.i64.wrap ((n:Int)+1)=((n+1:Nat):Int):=by rw [IntWalk.i64_in _ (by omega)];omega
   have hs1:n≤cx:=by omega
   have hs2:n+1≤M:=hnM
   have hs3:(0:Int)≤(n:Int)+1:=by omega
   have hs4:(n:Int)+1≤(M:Int):=by omega
   go_upto_region 21 with (fail)
   have hw6c:w6.heap.size≤wc.heap.size:=Al2 hw6r (Al2 hrc (Nat.le_refl _))
   have Q0:=oqc.drew
   have F0:Fr Non wc wc.drew:=(Fr.refl Non wc).drew
   refine wp_region_held_drew (S:=fun w'=>Own w' w4.heap.size 3 1 Aq np cq (pk.map Iv)) (by kernel_rfl) Q0 (fun hHeld=> ?_)
   clear hHeld
   refine tkH 1 Q0 (h:=tkH 2 Q0 (h:=tkH 3 Q0 (h:=tkH 5 Q0 (h:=tkH 6 Q0 (h:=tkH 7 Q0 (h:=tkH 8 Q0 (h:=?_)))))))
   simp only [List.set]
   refine oG 0 (fun K hK=> ?_)
   go_simp
   have e21:Own (wc.alloc (.cells #[] 44)).drew w6.heap.size 44 27 (some ⟨wc.heap.size,0,none⟩) 0 0 []:=((Own.empty wc 44 27).lower hw6c).drew
   have F1:Fr Non wc (wc.alloc (.cells #[] 44)).drew:=((Fr.refl Non wc).alloc _).drew
   have hgz:∀k,Ab (some (⟨wc.heap.size,0,none⟩:Addr))=some k→wc.heap.size≤k:=fun k hk=>by have e':wc.heap.size=k:=Option.some.inj hk;omega
   have Q1:=(oqc.alloc (.cells #[] 44)).drew
   generalize (wc.alloc (.cells #[] 44)).drew=v1 at*
   obtain ⟨gz,hgze⟩:=Aa wc.heap.size
   rw [hgze.out] at e21
   have hgz1:w6.heap.size≤v1.heap.size:=Al2 hw6c F1.size
   rw [show (Value.slice (some ⟨wc.heap.size,0,none⟩) 0 0)=Value.slice (some ⟨gz,0,none⟩) 0 0 by rw [hgze.out]]
   refine hK.out _ _ Q1 (fun hZ=> ?_)
   clear hZ hK K
   try simp only [Ac,List.set]
   refine oG 4 (fun K hK=> ?_)
   refine Dp (base:=w6.heap.size) (.tmp 85) (.tmp 88) 27 rfl rfl rfl E5 e21 ((ownc.fr F1 zr).rd.takeN (m:=n) (by omega)) (fun u hu=>I8 xs u (Al5 hu)) (by omega) (by omega) hgz1 ?_
   intro A2 c2 v2 own2 fr2 hat2
   rw [Al6,List.nil_append] at own2
   have hr1:∀k,Ab (some (⟨gz,0,none⟩:Addr))=some k→wc.heap.size≤k:=fun k hk=>by have e':gz=k:=Option.some.inj hk;have:=hgze.out;omega
   have F2:Fr Non wc v2:=F1.trans fr2 (fun k hk e=>by have:=hr1 k e;omega)
   have hr2:∀k,Ab A2=some k→wc.heap.size≤k:=fun k hk=>by
    rcases hat2 with e|e
    · rw [e] at hk;exact hr1 k hk
    · rw [e] at hk;have e':v1.heap.size=k:=Option.some.inj hk;have:=F1.size;omega
   have Q2:=oqc.fr F2 zr
   refine hK.out _ _ Q2 (fun hZ=> ?_)
   clear hZ hK K hat2 fr2 e21
   try simp only [Ac,List.set,Al6]
   refine oG 9 (fun K hK=> ?_)
   refine Dp (base:=w6.heap.size) (.tmp 89) (.tmp 93) 27 rfl rfl rfl E5 own2 (Rd.partN (ownc.fr F2 zr).rd (lo:=n+1) (hi:=M) (by omega) (Nat.le_refl _) _ (fun hlt=>if_neg (by omega))) (fun u hu=>I8 xs u (List.mem_of_mem_drop (Al5 hu))) (by omega) (by omega) (Al2 hw6c F2.size) ?_
   intro A3 c3 v3 own3 fr3 hat3
   have F3:Fr Non wc v3:=F2.trans fr3 (fun k hk e=>by have:=hr2 k e;omega)
   have Q3:=oqc.fr F3 zr
   refine hK.out _ _ Q3 (fun hZ=> ?_)
   clear hZ hK K hat3 fr3
   try simp only [Ac,List.set]
   refine tkH 10 Q3 (h:=?_)
   simp only [List.set]
   refine oD ?_
   go_simp
   have hcl:(xs.flatMap (fun x=>x.cells.toList)).take (n*27)++((xs.flatMap (fun x=>x.cells.toList)).drop ((n+1)*27)).take ((M-(n+1))*27)=(xs.eraseIdx n).flatMap (fun x=>x.cells.toList):=by
    have e3:((xs.drop (n+1)).flatMap (fun x=>x.cells.toList)).take ((M-(n+1))*27)=(xs.drop (n+1)).flatMap (fun x=>x.cells.toList):=List.take_of_length_le (by rw [Mt,List.length_drop];omega)
    rw [Ak4 xs n (by omega),Ak5 xs (n+1) (by omega),e3,← Al3,← List.eraseIdx_eq_take_drop_succ]
   rw [hcl] at own3
   have hlm:(xs.eraseIdx n).length=n+(M-(n+1)):=by rw [List.length_eraseIdx_of_lt (by omega)];omega
   have hin2:∀x∈xs.eraseIdx n,x∈X0:=fun y hy=>hin.out y (List.mem_of_mem_eraseIdx hy)
   have f3d:Fr Non w3 v3:=f3c.trans F3 zr
   have hq3:=hq2.out.fr F3
   have hw6d:=Al2 hw6c F3.size
   clear hcl own2 ownc Q0 Q1 Q2 F0 F1 F2 F3 hr1 hr2 hgz
   go_wp2_with (fail)
   go_roundw
   case rel=>exact ⟨i+1,q2,A3,c3,xs.eraseIdx n,n+(M-(n+1)),by go_num,rfl,by omega,by omega,hlm,hq3,hq2b.out,hq2c.out,hR2.out,hT2.out,hin2,own3,Q3,hw6d,f3d⟩
   case measure=>simp [intOf];omega
 case pos=>
  subst hne
  obtain rfl:M=0:=hM.out.symm
  have hR0:=hR.out
  rw [List.map_nil] at hR0
  have hnod:=hrows.nodup
  have hg3:=hg
  have hxid:∀x∈l.map Pn.id,x.ok:=fun x hx=>by obtain ⟨n,hn,rfl⟩:=List.mem_map.1 hx;exact hidok n hn
  have hsid:∀x∈Am (l.map Pn.id),x∈l.map Pn.id:=fun x hx=>(Da _).mem_iff.1 hx
  have hslen:(Am (l.map Pn.id)).length≤14:=by rw [E3,Al1];exact hl14
  have kAg:Hid (∀w',Fr Non wr w'→Calls Tryz.prog 21 #[.pointer (some ⟨gb,0,none⟩)] w' (Cn (Am (l.map Pn.id)) w')):=by
   intro w' hf'
   have:=Qx b g w' G9 (hg3.fr (hf.trans hf' zr))
   rw [hgb.out] at this
   refine this.mono ?_
   rintro e w'' ⟨A5,c5,out,rfl,hp,hs,o5,f5⟩
   obtain rfl:=Gr hs (Re hgp hp)
   exact ⟨A5,c5,rfl,o5,f5⟩
  have kAh:Hid (∀w',Fr Non wr w'→Calls Tryz.prog 21 #[.pointer (some ⟨hb,0,none⟩)] w' (Cn (Am (l.map Pn.id)) w')):=by
   intro w' hf'
   have:=Qx b4 q w' G9 (hq.out.fr hf')
   rw [hqb.out] at this
   refine this.mono ?_
   rintro e w'' ⟨A5,c5,out,rfl,hp,hs,o5,f5⟩
   obtain rfl:=Gr hs ((Re rfl hp).trans hR0.ends)
   exact ⟨A5,c5,rfl,o5,f5⟩
  have kSm:Hid (∀(ids:List Id) (A5 A6:Option Addr) (c5 c6:Nat) (w':World),Rd w' w'.heap.size 3 A5 ids.length (ids.flatMap Id.cells)→Rd w' w'.heap.size 3 A6 ids.length (ids.flatMap Id.cells)→ids.length≤1000→
    Calls Tryz.prog 20 #[.slice A5 ids.length c5,.slice A6 ids.length c6] w' fun e w''=>e=.returned (.bool true)∧Fr Non w' w''):=by
   intro ids A5 A6 c5 c6 w' h1 h2 hle
   have:=Ac5 w'.heap.size ids.length c5 w'.heap.size ids.length c6 A5 A6 ids ids w' rfl rfl h1 h2 (by omega) true (by simp)
   unfold Af at this
   exact this
  have kLg:Hid (∀(x:Id) (w':World),Fr Non wr w'→x∈l.map Pn.id→Calls Tryz.prog 27 #[.pointer (some ⟨gb,0,none⟩),.agg x.V] w' fun e w''=>e=.returned (.int .i64 (Bq l x:Int))∧Fr Non w' w''):=by
   intro x w' hf' hx
   have:=J2 b g x w' (hg3.fr (hf.trans hf' zr)) (hxid x hx)
   rw [g.level_eq,hgp,hgb.out] at this
   exact this
  have kLh:Hid (∀(x:Id) (w':World),Fr Non wr w'→x∈l.map Pn.id→Calls Tryz.prog 27 #[.pointer (some ⟨hb,0,none⟩),.agg x.V] w' fun e w''=>e=.returned (.int .i64 (Bq l x:Int))∧Fr Non w' w''):=by
   intro x w' hf' hx
   have:=J2 b4 q x w' (hq.out.fr hf') (hxid x hx)
   rw [q.level_eq,hR0.lev hx,hqb.out] at this
   exact this
  have kPg:Hid (∀(x:Id) (A':Option Addr) (c':Nat) (w':World),Fr Non wr w'→x∈l.map Pn.id→Rd w' w'.heap.size 3 A' 1 ([x].flatMap Id.cells)→
    Calls Tryz.prog 28 #[.pointer (some ⟨gb,0,none⟩),.slice A' 1 c'] w' (Cn (Am (Bi l (Ao l [x]) l.length)) w')):=by
   intro x A' c' w' hf' hx hr
   have:=Lf b g w'.heap.size 1 c' A' [x] w' G9 (hg3.fr (hf.trans hf' zr)) rfl hr (by omega) (fun y hy=>by rw [List.mem_singleton.1 hy];exact hxid x hx)
   rw [hgb.out] at this
   refine this.mono ?_
   rintro e w'' ⟨A5,c5,out,rfl,hp,hs,o5,f5⟩
   obtain rfl:=Sa hgp (by rw [← hgp];unfold Gph.pns;rw [Al1]) hp hs
   exact ⟨A5,c5,rfl,o5,f5⟩
  have kPh:Hid (∀(x:Id) (A':Option Addr) (c':Nat) (w':World),Fr Non wr w'→x∈l.map Pn.id→Rd w' w'.heap.size 3 A' 1 ([x].flatMap Id.cells)→
    Calls Tryz.prog 28 #[.pointer (some ⟨hb,0,none⟩),.slice A' 1 c'] w' (Cn (Am (Bi l (Ao l [x]) l.length)) w')):=by
   intro x A' c' w' hf' hx hr
   have:=Lf b4 q w'.heap.size 1 c' A' [x] w' G9 (hq.out.fr hf') rfl hr (by omega) (fun y hy=>by rw [List.mem_singleton.1 hy];exact hxid x hx)
   rw [hqb.out] at this
   refine this.mono ?_
   rintro e w'' ⟨A5,c5,out,rfl,hp,hs,o5,f5⟩
   have e1:=Sa rfl (by unfold Gph.pns;rw [Al1]) hp hs
   obtain rfl:=Gr hs ((e1▸Da _:out.Perm _).trans (hR0.past hx))
   exact ⟨A5,c5,rfl,o5,f5⟩
  have hfw:=f03.trans hf zr
  have hplen:∀x:Id,(Am (Bi l (Ao l [x]) l.length)).length≤1000:=fun x=>by rw [E3];have:=Lz l (Ao l [x]) l.length;omega
  obtain ⟨IS,hIS⟩:=Aa (Am (l.map Pn.id))
  rw [hIS.out] at kAg kAh hslen hsid
  obtain ⟨NI,hNI⟩:=Aa IS.length
  have kS1:=Lib.hid (fun A5 A6 c5 c6 w' h1 h2=>kSm.out IS A5 A6 c5 c6 w' h1 h2 (by omega))
  unfold Cn at kAg kAh kPg kPh
  rw [hNI.out] at kAg kAh hslen kS1
  clear hq hqb hqc hR hR0 hT hin own oq hf hg hg3 hgp hgb hidok hrows hxo hN0 hnp hpi hM hIS hnod hxid hw6
  go_upto_region 25 with (first
   |(go_at_call 21;(first
     |(with_reducible refine (kAg.out _ (Fr.refl Non wr)).mono ?_;rintro _ wd ⟨Ad,cd,rfl,od,fd⟩)
     |(with_reducible refine (kAh.out _ fd).mono ?_;rintro _ we ⟨Ae,ce,rfl,oe,fe⟩;have od2:=od.fr fe zr)))
   |(go_at_call 20;(with_reducible refine (kS1.out _ _ _ _ _ od2.rd oe.rd).mono ?_);rintro _ wf ⟨rfl,ff⟩))
  have fwf:Fr Non wr wf:=(fd.trans fe zr).trans ff zr
  have odr:=(od2.fr ff zr).rd
  have fww:=hfw.trans fwf zr
  clear kAg kAh kS1 od oe od2 fd fe ff hfw f03 hb3 hb34 hb4 k3 hi hi27
  generalize wr=wo at*
  clear wr
  go_wp2_with (fail)
  go_loopw [15] (fun v wr=>∃k:Nat,v=.int .i64 (k:Int)∧k≤NI∧Fr Non wf wr) (fun v _=>NI-(intOf v).toNat)
  case atStart=>exact ⟨0,rfl,Nat.zero_le _,Fr.refl _ _⟩
  case round=>
  obtain ⟨k,rfl,hkN,fx⟩:=hrel
  by_cases hlt:k<NI
  ·
   obtain ⟨x,hx⟩:∃x,IS[k]? =some x:=⟨_,Al7 (by rw [hNI.out];exact hlt)⟩
   have hxm:=hsid x (Al8 hx)
   obtain ⟨ba,oa,rfl,_,Xa0,Xb0,Xc0⟩:=Id.at (odr.fr fx zr) hx
   have F0:Fr Non wr wr.drew:=(Fr.refl Non wr).drew
   have fwx:=fwf.trans fx zr
   have G0:Fr Non wo wr.drew:=fwx.drew
   have i1:(0:Int)≤k:=by omega
   have i2:(k:Int)<NI:=by omega
   have i3:(k:Int).toNat=k:=by omega
   have q1:=Lib.hid (fun (w':World) (hf:Fr Non wo w')=>kLg.out x w' hf hxm)
   have q2:=Lib.hid (fun (w':World) (hf:Fr Non wo w')=>kLh.out x w' hf hxm)
   have q3:=Lib.hid (fun (A':Option Addr) (c':Nat) (w':World) (hf:Fr Non wo w') hr=>kPg.out x A' c' w' hf hxm hr)
   have q4:=Lib.hid (fun (A':Option Addr) (c':Nat) (w':World) (hf:Fr Non wo w') hr=>kPh.out x A' c' w' hf hxm hr)
   have hpl:=hplen x
   have q5:=Lib.hid (fun A5 A6 c5 c6 w' h1 h2=>kSm.out (Am (Bi l (Ao l [x]) l.length)) A5 A6 c5 c6 w' h1 h2 hpl)
   generalize Am (Bi l (Ao l [x]) l.length)=PX at*
   obtain ⟨NX,hNX⟩:=Aa PX.length
   rw [hNX.out] at q3 q4 q5
   generalize Bq l x=La at*
   have t1:((La:Int) !=(La:Int))=false:=by simp
   clear kLg kLh kPg kPh kSm hplen hx hpl hNX
   go_upto_region 28 with (fail)
   refine wp_region_held_drew (S:=fun w'=>w'.cell? ⟨ba,oa+k*3,none⟩=some (.int .i64 x.b)∧w'.cell? ⟨ba,oa+k*3+1,none⟩=some (.int .i64 x.s)∧w'.cell? ⟨ba,oa+k*3+2,none⟩=some (.int .u64 (x.u:Int))) (by kernel_rfl) ⟨Xa0,Xb0,Xc0⟩ (fun hHeld=> ?_)
   clear hHeld
   refine tkH 0 ⟨Xa0,Xb0,Xc0⟩ (h:=tkH 1 ⟨Xa0,Xb0,Xc0⟩ (h:=tkH 2 ⟨Xa0,Xb0,Xc0⟩ (h:=tkH 3 ⟨Xa0,Xb0,Xc0⟩ (h:=tkH 4 ⟨Xa0,Xb0,Xc0⟩ (h:=tkH 6 ⟨Xa0,Xb0,Xc0⟩ (h:=tkH 7 ⟨Xa0,Xb0,Xc0⟩ (h:=tkH 8 ⟨Xa0,Xb0,Xc0⟩ (h:=tkH 9 ⟨Xa0,Xb0,Xc0⟩ (h:=tkH 10 ⟨Xa0,Xb0,Xc0⟩ (h:=?_))))))))))
   simp only [List.set]
   refine oG 5 (fun K hK=> ?_)
   go_simp
   go_wp2_with (go_at_call 27;(with_reducible refine (q1.out _ G0).mono ?_);rintro _ v1 ⟨rfl,fq1⟩;have F1:=F0.trans fq1 zr;have Xa1:=F1.cell Xa0 zq;have Xb1:=F1.cell Xb0 zq;have Xc1:=F1.cell Xc0 zq;have G1:=fwx.trans F1 zr)
   refine hK.out _ _ ⟨Xa1,Xb1,Xc1⟩ (fun hZ=> ?_)
   clear hZ hK K
   try simp only [Ac,List.set]
   refine oG 11 (fun K hK=> ?_)
   go_simp
   go_wp2_with (go_at_call 27;(with_reducible refine (q2.out _ G1).mono ?_);rintro _ v2 ⟨rfl,fq2⟩;have F2:=F1.trans fq2 zr;have Xa2:=F2.cell Xa0 zq;have Xb2:=F2.cell Xb0 zq;have Xc2:=F2.cell Xc0 zq;have G2:=fwx.trans F2 zr)
   refine hK.out _ _ ⟨Xa2,Xb2,Xc2⟩ (fun hZ=> ?_)
   clear hZ hK K
   try simp only [Ac,List.set]
   refine tkH 12 ⟨Xa2,Xb2,Xc2⟩ (h:=tkH 13 ⟨Xa2,Xb2,Xc2⟩ (h:=tkH 14 ⟨Xa2,Xb2,Xc2⟩ (h:=tkH 15 ⟨Xa2,Xb2,Xc2⟩ (h:=tkH 16 ⟨Xa2,Xb2,Xc2⟩ (h:=tkH 17 ⟨Xa2,Xb2,Xc2⟩ (h:=tkH 18 ⟨Xa2,Xb2,Xc2⟩ (h:=tkH 21 ⟨Xa2,Xb2,Xc2⟩ (h:=tkH 22 ⟨Xa2,Xb2,Xc2⟩ (h:=tkH 23 ⟨Xa2,Xb2,Xc2⟩ (h:=tkH 24 ⟨Xa2,Xb2,Xc2⟩ (h:=tkH 25 ⟨Xa2,Xb2,Xc2⟩ (h:=?_))))))))))))
   simp only [List.set]
   refine E9 19 26 (by kernel_rfl) rfl rfl (by kernel_rfl) (by kernel_rfl) (fun K hK=> ?_) (fun K hK=> ?_)
   ·
    skip
    go_simp
    have B19_3:=Blk.new v2 38 x.V
    have fq3:Fr Non v2 (v2.alloc (.cells x.V 38)):=(Fr.refl _ _).alloc _
    have F3:=F2.trans fq3 zr
    have Xa3:=F3.cell Xa0 zq
    have Xb3:=F3.cell Xb0 zq
    have Xc3:=F3.cell Xc0 zq
    have G3:=fwx.trans F3 zr
    refine hK.out _ _ ⟨Xa3,Xb3,Xc3⟩ (fun hZ=> ?_)
    clear hZ hK K
    try simp only [Ac,List.set]
    generalize v2.alloc (.cells x.V 38)=v3 at*
    refine E9 20 26 (by kernel_rfl) rfl rfl (by kernel_rfl) (by kernel_rfl) (fun K hK=> ?_) (fun K hK=> ?_)
    ·
     skip
     go_simp
     go_wp2_with (go_at_call 28;(with_reducible refine (q3.out _ _ _ G3 (Rd.blk (n:=1) (size:=3) B19_3 rfl)).mono ?_);rintro _ v4 ⟨A20,c20,rfl,o20_4,fq4⟩;have F4:=F3.trans fq4 zr;have Xa4:=F4.cell Xa0 zq;have Xb4:=F4.cell Xb0 zq;have Xc4:=F4.cell Xc0 zq;have G4:=fwx.trans F4 zr;have B19_4:=B19_3.fr fq4 zq)
     refine hK.out _ _ ⟨Xa4,Xb4,Xc4⟩ (fun hZ=> ?_)
     clear hZ hK K
     try simp only [Ac,List.set]
     refine oG 26 (fun K hK=> ?_)
     go_simp
     have B26_5:=Blk.new v4 38 x.V
     have fq5:Fr Non v4 (v4.alloc (.cells x.V 38)):=(Fr.refl _ _).alloc _
     have B19_5:=B19_4.fr fq5 zq
     have o20_5:=o20_4.fr fq5 zr
     have F5:=F4.trans fq5 zr
     have Xa5:=F5.cell Xa0 zq
     have Xb5:=F5.cell Xb0 zq
     have Xc5:=F5.cell Xc0 zq
     have G5:=fwx.trans F5 zr
     refine hK.out _ _ ⟨Xa5,Xb5,Xc5⟩ (fun hZ=> ?_)
     clear hZ hK K
     try simp only [Ac,List.set]
     generalize v4.alloc (.cells x.V 38)=v5 at*
     refine oG 27 (fun K hK=> ?_)
     go_simp
     go_wp2_with (go_at_call 28;(with_reducible refine (q4.out _ _ _ G5 (Rd.blk (n:=1) (size:=3) B26_5 rfl)).mono ?_);rintro _ v6 ⟨A27,c27,rfl,o27_6,fq6⟩;have F6:=F5.trans fq6 zr;have Xa6:=F6.cell Xa0 zq;have Xb6:=F6.cell Xb0 zq;have Xc6:=F6.cell Xc0 zq;have G6:=fwx.trans F6 zr;have B19_6:=B19_5.fr fq6 zq;have o20_6:=o20_5.fr fq6 zr;have B26_6:=B26_5.fr fq6 zq)
     refine hK.out _ _ ⟨Xa6,Xb6,Xc6⟩ (fun hZ=> ?_)
     clear hZ hK K
     try simp only [Ac,List.set]
     refine oG 28 (fun K hK=> ?_)
     go_simp
     go_wp2_with (go_at_call 20;(with_reducible refine (q5.out _ _ _ _ _ (o20_6.rd) (o27_6.rd)).mono ?_);rintro _ v7 ⟨rfl,fq7⟩;have F7:=F6.trans fq7 zr;have Xa7:=F7.cell Xa0 zq;have Xb7:=F7.cell Xb0 zq;have Xc7:=F7.cell Xc0 zq;have G7:=fwx.trans F7 zr)
     refine hK.out _ _ ⟨Xa7,Xb7,Xc7⟩ (fun hZ=> ?_)
     clear hZ hK K
     try simp only [Ac,List.set]
     refine tkH 29 ⟨Xa7,Xb7,Xc7⟩ (h:=tkH 30 ⟨Xa7,Xb7,Xc7⟩ (h:=?_))
     simp only [List.set]
     refine oD ?_
     go_simp
     have f9:=fx.trans F7 zr
     clear q1 q2 q3 q4 q5
     go_wp2_with (fail)
     go_roundw
     case rel=>exact ⟨k+1,by go_num,by omega,f9⟩
     case measure=>simp [intOf];omega
    ·
     skip
     go_simp
     have B26_4:=Blk.new v3 38 x.V
     have fq4:Fr Non v3 (v3.alloc (.cells x.V 38)):=(Fr.refl _ _).alloc _
     have B19_4:=B19_3.fr fq4 zq
     have F4:=F3.trans fq4 zr
     have Xa4:=F4.cell Xa0 zq
     have Xb4:=F4.cell Xb0 zq
     have Xc4:=F4.cell Xc0 zq
     have G4:=fwx.trans F4 zr
     refine hK.out _ _ ⟨Xa4,Xb4,Xc4⟩ (fun hZ=> ?_)
     clear hZ hK K
     try simp only [Ac,List.set]
     generalize v3.alloc (.cells x.V 38)=v4 at*
     refine oG 20 (fun K hK=> ?_)
     go_simp
     go_wp2_with (go_at_call 28;(with_reducible refine (q3.out _ _ _ G4 (Rd.blk (n:=1) (size:=3) B19_4 rfl)).mono ?_);rintro _ v5 ⟨A20,c20,rfl,o20_5,fq5⟩;have F5:=F4.trans fq5 zr;have Xa5:=F5.cell Xa0 zq;have Xb5:=F5.cell Xb0 zq;have Xc5:=F5.cell Xc0 zq;have G5:=fwx.trans F5 zr;have B19_5:=B19_4.fr fq5 zq;have B26_5:=B26_4.fr fq5 zq)
     refine hK.out _ _ ⟨Xa5,Xb5,Xc5⟩ (fun hZ=> ?_)
     clear hZ hK K
     try simp only [Ac,List.set]
     refine oG 27 (fun K hK=> ?_)
     go_simp
     go_wp2_with (go_at_call 28;(with_reducible refine (q4.out _ _ _ G5 (Rd.blk (n:=1) (size:=3) B26_5 rfl)).mono ?_);rintro _ v6 ⟨A27,c27,rfl,o27_6,fq6⟩;have F6:=F5.trans fq6 zr;have Xa6:=F6.cell Xa0 zq;have Xb6:=F6.cell Xb0 zq;have Xc6:=F6.cell Xc0 zq;have G6:=fwx.trans F6 zr;have B19_6:=B19_5.fr fq6 zq;have B26_6:=B26_5.fr fq6 zq;have o20_6:=o20_5.fr fq6 zr)
     refine hK.out _ _ ⟨Xa6,Xb6,Xc6⟩ (fun hZ=> ?_)
     clear hZ hK K
     try simp only [Ac,List.set]
     refine oG 28 (fun K hK=> ?_)
     go_simp
     go_wp2_with (go_at_call 20;(with_reducible refine (q5.out _ _ _ _ _ (o20_6.rd) (o27_6.rd)).mono ?_);rintro _ v7 ⟨rfl,fq7⟩;have F7:=F6.trans fq7 zr;have Xa7:=F7.cell Xa0 zq;have Xb7:=F7.cell Xb0 zq;have Xc7:=F7.cell Xc0 zq;have G7:=fwx.trans F7 zr)
     refine hK.out _ _ ⟨Xa7,Xb7,Xc7⟩ (fun hZ=> ?_)
     clear hZ hK K
     try simp only [Ac,List.set]
     refine tkH 29 ⟨Xa7,Xb7,Xc7⟩ (h:=tkH 30 ⟨Xa7,Xb7,Xc7⟩ (h:=?_))
     simp only [List.set]
     refine oD ?_
     go_simp
     have f9:=fx.trans F7 zr
     clear q1 q2 q3 q4 q5
     go_wp2_with (fail)
     go_roundw
     case rel=>exact ⟨k+1,by go_num,by omega,f9⟩
     case measure=>simp [intOf];omega
   ·
    skip
    go_simp
    have B26_3:=Blk.new v2 38 x.V
    have fq3:Fr Non v2 (v2.alloc (.cells x.V 38)):=(Fr.refl _ _).alloc _
    have F3:=F2.trans fq3 zr
    have Xa3:=F3.cell Xa0 zq
    have Xb3:=F3.cell Xb0 zq
    have Xc3:=F3.cell Xc0 zq
    have G3:=fwx.trans F3 zr
    refine hK.out _ _ ⟨Xa3,Xb3,Xc3⟩ (fun hZ=> ?_)
    clear hZ hK K
    try simp only [Ac,List.set]
    generalize v2.alloc (.cells x.V 38)=v3 at*
    refine oG 19 (fun K hK=> ?_)
    go_simp
    have B19_4:=Blk.new v3 38 x.V
    have fq4:Fr Non v3 (v3.alloc (.cells x.V 38)):=(Fr.refl _ _).alloc _
    have B26_4:=B26_3.fr fq4 zq
    have F4:=F3.trans fq4 zr
    have Xa4:=F4.cell Xa0 zq
    have Xb4:=F4.cell Xb0 zq
    have Xc4:=F4.cell Xc0 zq
    have G4:=fwx.trans F4 zr
    refine hK.out _ _ ⟨Xa4,Xb4,Xc4⟩ (fun hZ=> ?_)
    clear hZ hK K
    try simp only [Ac,List.set]
    generalize v3.alloc (.cells x.V 38)=v4 at*
    refine oG 20 (fun K hK=> ?_)
    go_simp
    go_wp2_with (go_at_call 28;(with_reducible refine (q3.out _ _ _ G4 (Rd.blk (n:=1) (size:=3) B19_4 rfl)).mono ?_);rintro _ v5 ⟨A20,c20,rfl,o20_5,fq5⟩;have F5:=F4.trans fq5 zr;have Xa5:=F5.cell Xa0 zq;have Xb5:=F5.cell Xb0 zq;have Xc5:=F5.cell Xc0 zq;have G5:=fwx.trans F5 zr;have B26_5:=B26_4.fr fq5 zq;have B19_5:=B19_4.fr fq5 zq)
    refine hK.out _ _ ⟨Xa5,Xb5,Xc5⟩ (fun hZ=> ?_)
    clear hZ hK K
    try simp only [Ac,List.set]
    refine oG 27 (fun K hK=> ?_)
    go_simp
    go_wp2_with (go_at_call 28;(with_reducible refine (q4.out _ _ _ G5 (Rd.blk (n:=1) (size:=3) B26_5 rfl)).mono ?_);rintro _ v6 ⟨A27,c27,rfl,o27_6,fq6⟩;have F6:=F5.trans fq6 zr;have Xa6:=F6.cell Xa0 zq;have Xb6:=F6.cell Xb0 zq;have Xc6:=F6.cell Xc0 zq;have G6:=fwx.trans F6 zr;have B26_6:=B26_5.fr fq6 zq;have B19_6:=B19_5.fr fq6 zq;have o20_6:=o20_5.fr fq6 zr)
    refine hK.out _ _ ⟨Xa6,Xb6,Xc6⟩ (fun hZ=> ?_)
    clear hZ hK K
    try simp only [Ac,List.set]
    refine oG 28 (fun K hK=> ?_)
    go_simp
    go_wp2_with (go_at_call 20;(with_reducible refine (q5.out _ _ _ _ _ (o20_6.rd) (o27_6.rd)).mono ?_);rintro _ v7 ⟨rfl,fq7⟩;have F7:=F6.trans fq7 zr;have Xa7:=F7.cell Xa0 zq;have Xb7:=F7.cell Xb0 zq;have Xc7:=F7.cell Xc0 zq;have G7:=fwx.trans F7 zr)
    refine hK.out _ _ ⟨Xa7,Xb7,Xc7⟩ (fun hZ=> ?_)
    clear hZ hK K
    try simp only [Ac,List.set]
    refine tkH 29 ⟨Xa7,Xb7,Xc7⟩ (h:=tkH 30 ⟨Xa7,Xb7,Xc7⟩ (h:=?_))
    simp only [List.set]
    refine oD ?_
    go_simp
    have f9:=fx.trans F7 zr
    clear q1 q2 q3 q4 q5
    go_wp2_with (fail)
    go_roundw
    case rel=>exact ⟨k+1,by go_num,by omega,f9⟩
    case measure=>simp [intOf];omega
  ·
   obtain rfl:k=NI:=by omega
   have t1:decide ((k:Int)<(k:Int))=false:=decide_eq_false (by omega)
   have fwz:=fww.trans fx zr
   have kv:=Lib.hid (hlv.out wr fwz)
   go_wp2_with (go_at_call 19;(with_reducible refine (kv.out).mono ?_);rintro _ wy ⟨rfl,fy⟩;have fre:=fwz.trans fy zr)
   exact hfin.out _ fre
end Oq
end
section
open Go.ChangeShapes Go.WideShapes Go.ChangeAt Go.RowKit
theorem Ak9 (os:Os) (started:os.Started) (H:Type) (enc:TypeId × Value→H):
  ReturnsInHanded {} Tryz.checked os 4 .any (fun w args=>(Rows.graphRowSpec.pre enc Tryz.prog Tryz.f4 [] false w args∧laidMetH Tryz.prog [("huddle/op.kinds",Rows.laid_huddle_op_kinds)] w)∧sizedMet enc Tryz.prog Tryz.f4 (OpenSpec.ofChange Rows.graphRowSpec) false w args)
   (Rows.graphRowSpec.post enc Tryz.prog Tryz.f4 false true false false):=by
 refine returnsInHanded_of_change_and (C:=Tryz.checked) (X:=fun w _=>laidMetH Tryz.prog [("huddle/op.kinds",Rows.laid_huddle_op_kinds)] w) (fun _ _ _ hh h=>h.of_heap hh) Tryz.own started (by kernel_rfl) Tryz.func4
  (ChangeSpec.witness_at (enc:=enc) (C:=Tryz.checked) (os:=os) (X:=fun w _=>laidMetH Tryz.prog [("huddle/op.kinds",Rows.laid_huddle_op_kinds)] w) false (J9 os) #[.slice none 0 0,.slice none 0 0] 8 rfl (by kernel_rfl) (by kernel_rfl) (by kernel_rfl) (by kernel_rfl) (by kernel_rfl) (U3 os _)) ?_
 intro W base args ds gs before hval0 hW _ _ hL _
 have hk:=U2 hL
 have hval:∀(j:Nat) t v,Tryz.f4.params[j]? =some t→args[j]? =some v→Value.okWide Tryz.prog W .any base t v:=hval0
 have hW':=hW
 obtain ⟨p,q,hA0,hV,rfl,hfz,hnd⟩:=hW
 have hA:DataW.TrodAll enc Tryz.prog W 0 (fun _=>true) true Tryz.f4.params.toList args.toList ds p:=hA0
 rw [Tryz.params4] at hA hval
 obtain ⟨v0,v1,d0,d1,p0,p1,rfl,rfl,rfl,h0,h1⟩:=trodAll_two hA
 obtain ⟨A0,c0,l0,rfl,hlc0,hc0,hr0,hok0⟩:=M4 Tryz.underlying22 Tryz.underlying3 (by kernel_rfl) (hval 0 22 v0 rfl rfl) h0
 obtain ⟨A1,c1,l1,rfl,hlc1,hc1,hr1,hok1⟩:=M4 Tryz.underlying22 Tryz.underlying3 (by kernel_rfl) (hval 1 22 v1 rfl rfl) h1
 refine (Oq.graphRow_law A0 c0 l0 A1 c1 l1 W hk hr0 hlc0 hc0 hok0 hr1 hlc1 hc1 hok1).mono fun e W' ⟨he,hf⟩=> ?_
 exact ⟨_,he,Sz Tryz.laidOut (by kernel_rfl) rfl (by kernel_rfl) Tryz.underlying4 hW' ⟨rfl,rfl,rfl⟩ hf⟩
theorem Al0:Rows.GraphRowSaid:=
 OpenClaim.holds_of_wide 4 Tryz.f4 rfl rfl rfl rfl rfl rfl rfl ⟨rfl,rfl,rfl,rfl,rfl⟩ rfl rfl rfl rfl rfl (by kernel_rfl) Tryz.func4 (by kernel_rfl)
  (of_decide_eq_true (by kernel_rfl)) (by unfold Func.isWrapper;rw [if_neg (by decide+kernel)];exact ⟨rfl,rfl⟩)
  (fun os started H enc _=>Ak9 os started H enc)
end
section
open Go
theorem graphRow_card_holds:Rows.GraphRowCardSaid:=
 Claim7.holds_tied_plain_at .later [] [.data] true (true, "7e0c834fc93e2f05c1722e6864a69bf9e61c39615967a567db2e137b72a7bc25") false
  Al0 (fun _ h=>by cases h) (by kernel_rfl) (fun _ h=>by cases h) graphRow_row_tie rfl ⟨rfl,rfl⟩ (by kernel_rfl) rfl
  (fun f fn hf hfn=>by
   obtain rfl:f=4:=Option.some.inj ((show Tryz.prog.funcNamed "huddle/huddlelaw12.GraphRow" =some 4 by kernel_rfl).symm.trans hf)|>.symm
   obtain rfl:fn=Tryz.f4:=(Option.some.inj (Tryz.func4.symm.trans hfn)).symm
   exact ⟨by kernel_rfl,fun j t ht=>by
    rw [Tryz.params4] at ht
    have hm:t∈([22,22]:List TypeId):=by
     have h2:=Array.mem_of_getElem? ht
     simpa using h2
    have hall:([22,22]:List TypeId).all (fun t=> !(Tryz.prog.wantsStandIn t))=true:=by kernel_rfl
    have:=List.all_eq_true.1 hall t hm
    exact (by simpa using this:Tryz.prog.wantsStandIn t=false)⟩)
  (by kernel_rfl)
end
end Go.Proofs.YtafonabghnogaaaGreatDoor
