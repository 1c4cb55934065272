/-
  Contracts of the functions that the claim's statement reaches, walked one by one (part 17).
  Conditions: as each theorem says.
-/
import Derived.Test.YtafonabghnogaaaGreatDoorGoM12
import Derived.Test.YtafonabghnogaaaGreatDoorGoM13
import Derived.Test.YtafonabghnogaaaGreatDoorGoM16
set_option maxRecDepth 100000
set_option maxHeartbeats 16000000
namespace Go.Proofs.YtafonabghnogaaaGreatDoor
section
open Go.RowKit
attribute [local go_sem ↓] Go.wp_at_zero Go.wp_at_succ
namespace Oq
attribute [local go_sem] Bool.not_false Bool.not_true
attribute [local go_sem ↓] loadAt_G loadAt_op storeAt_op
theorem run_fsB {f:Operand→Value} {d:Option Tmp} {pos:String} {after:Array Edge} {D a v:Int} {A:Option Addr} {w:World} (h0:f (.tmp 45)=.int .i64 D) (h1:f (.tmp 49)=.int .i64 a) (h2:f (.tmp 53)=.int .i64 v) (h3:f (.tmp 55)=.slice A 1 1) (h4:∀v,f (.const v)=v):
  Sem.run Tryz.prog (execOp f ⟨d,.build 44 #[(0,.tmp 45),(2,.const (.int .i64 1)),(1,.const (.int .i64 1)),(3,.tmp 49),(16,.tmp 53),(9,.tmp 55)],44,pos,after,none⟩) w=Result.ok (Next.value (.agg (fsL D a v A).cells)) w:=by
 go_simp
 rfl
theorem rnext_any (base B n c:Nat) (r:RG) (A:Option Addr) (l0:List Int) (w:World) (h:r.own w base) (hcs:r.cards=cardsFrom 0 [1,2,3,1]) (hn:Hid (l0.length=n)) (hr:Rd w B 1 A n (l0.map Iv)) (hok:∀x∈l0,I64 x):
  Calls Tryz.prog 31 #[.agg r.cells,.slice A n c] w (NextPost r.cards r.l w):=by
 have hfew:=h.few
 have hnc:r.cards.length=4:=by rw [hcs];rfl
 have hi:(Tryz.prog.info? 44).map (·.size)=some 27:=by kernel_rfl
 have bg:=(Blk.new w 32 r.cells).alloc (.cells zO 44)
 have br:=Blk.new (w.alloc (.cells r.cells 32)) 44 zO
 rw [World.size_alloc] at br
 have f0:Fr Non w ((w.alloc (.cells r.cells 32)).alloc (.cells zO 44)):=((Fr.refl Non w).alloc _).alloc _
 have sz0:w.heap.size+2≤((w.alloc (.cells r.cells 32)).alloc (.cells zO 44)).heap.size:=by
  rw [World.size_alloc,World.size_alloc]
  exact Nat.le_refl _
 have hl:=ldS_blk (P:=Tryz.prog) w.heap.size 32 Tryz.underlying32 rfl (cs:=r.cells) infoG
 have kA:=Lib.hid (fun (w':World) (hf:Fr Non w w')=>rall_any base r w' (h.non hf))
 have kH:=Lib.hid (fun (B' n' c':Nat) (A':Option Addr) (ids:List Id) (w':World) (hf:Fr Non w w') hn hr hnm=>rheads_any base r B' n' c' A' ids w' (h.non hf) hn hr hnm)
 have kC:=Lib.hid (fun (B' n' c':Nat) (A':Option Addr) (l1:List Int) (w':World) (hf:Fr Non w w') hn hr hnm=>rclosed_any base r B' n' c' A' l1 w' (h.non hf) hn hr hnm)
 have kS:=Lib.hid (fun (B' n' c':Nat) (A':Option Addr) (ids:List Id) (d:Int) (w':World) hn hr hnm hs=>rseq_any r.cells B' n' c' A' ids d w' hn hr hnm hs)
 have kL:=Lib.hid (fun (B' n' c':Nat) (A':Option Addr) (ids:List Id) (w':World) (hf:Fr Non w w') hn hr hnm=>rlate_any base r B' n' c' A' ids w' (h.non hf) hn hr hnm)
 have kO:=Lib.hid (fun (b:Int) (m:Nat) (w':World) hb hn=>some_any b m w' hb hn)
 have kar:=Lib.hid (fun (x:Int) (hx:x∈l0) (w':World)=>around_any x 1000000 w' (hok x hx).1 (hok x hx).2 (by decide) (by decide))
 have hpl:Hid (∀ids:List Id,(∀id∈ids,(plc r.l id).isSome=true)→ids.length≤200→(headsL r.l ids).length≤1000∧(∀x∈headsL r.l ids,x.ok)∧(∀x∈ids,x.s≤2147483647)∧(∀d k,0≤seqTo ids d k∧seqTo ids d k≤2147483647)∧0≤late r.l ids∧late r.l ids≤2147483647):=by
  intro ids h1 h2
  have hs:∀x∈ids,x.s≤2147483647:=fun x hx=>(placed_id h.rows h.ok (h1 x hx)).2.2
  have hb:=late_bd h.rows ids
  refine ⟨?_,fun x hx=>(placed_id h.rows h.ok (h1 x (headsL_sub hx).1)).1,hs,fun d k=>seqTo_bd (by omega) hs k,hb⟩
  have:=headsL_len r.l ids
  omega
 have hallp:Hid ((∀id∈sortIds r.ids,(plc r.l id).isSome=true)∧(sortIds r.ids).length=r.l.length):=by
  have hcl:=closed_all h.rows
  exact ⟨hcl.2,by rw [sortIds_len];show (r.l.map Pn.id).length=_;rw [List.length_map]⟩
 have hclp:Hid (∀cs,ClosedOk r.l cs→(∀id∈cs,(plc r.l id).isSome=true)∧cs.length≤200):=fun cs hc=>⟨hc.2,Nat.le_trans (closed_len h.rows hc) hfew⟩
 have hfst:=Lib.hid (fun (d a v:Int) (hd:1≤d∧d≤4) (ha:0≤a∧a≤4) (hv:0≤v∧v≤4)=>made_first hcs hd ha hv)
 have hfin:Hid (∀(y:OpL) (wy wz:World),y.op.ok→y.own wy (w.heap.size+2)→Fr Non w wy→Blk wy (w.heap.size+1) 44 zO→Fr (One (w.heap.size+1)) wy wz→(r.l=[]→addErr r.cards [] y.op=0)→NextPost r.cards r.l w (.returned (.agg y.cells)) wz):=by
  intro y wy wz h1 h2 h3 h4 h5 h6
  refine ⟨y,rfl,h1,(h2.opBlk h4 h5).lower (by omega),h3.trans h5 (fun k hk e=>absurd hk (by have e2:k=w.heap.size+1:=e;omega)),h6⟩
 have g0:Hid (r.cells[0]? =some (.slice r.cA r.cards.length r.cC)):=rfl
 have g1:Hid (r.cells[1]? =some (.slice r.lA r.l.length r.lC)):=rfl
 rw [hnc] at g0
 have hNl:Hid (r.l.length=0→r.l=[]):=fun e=>List.length_eq_zero_iff.1 e
 have hNl2:Hid (r.l=[]→r.l.length=0):=fun e=>by show _=_;rw [e];rfl
 clear h hcs hnc
 generalize NextPost r.cards r.l w=POST at*
 unfold SortPost at kA
 generalize sortIds r.ids=SI at*
 generalize r.lA=LA at*
 generalize r.lC=LC at*
 generalize r.cA=CA at*
 generalize r.cC=CC at*
 generalize r.cells=CS at*
 generalize r.cards=CD at*
 generalize r.l=l at*
 obtain ⟨N,hN⟩:=hid_ex l.length
 rw [hN.out] at kA g1 hfew hallp hNl hNl2
 clear hN
 go_enter Tryz.func31,Tryz.ntmps31
 go_upto_region 1 with (fail)
 generalize (w.alloc (.cells CS 32)).alloc (.cells zO 44)=w0 at*
 go_wp2_with (fail)
 go_loopw [5,6] (fun s v wr=>∃(j:Nat) (Ax:Option Addr) (cx:Nat) (ks:List Nat),v=.int .i64 (j:Int)∧s=.slice Ax j cx∧j≤4∧Hid (ks.length=j)∧Hid (∀x∈ks,x<1000000)∧Own wr w0.heap.size 3 1 Ax j cx (ks.map Qv)∧Fr Non w0 wr) (fun _ v _=>4-(intOf v).toNat)
 case atStart=>exact ⟨0,none,0,[],rfl,rfl,by omega,rfl,fun x hx=>absurd hx List.not_mem_nil,Own.nil _ _ _ _,Fr.refl _ _⟩
 case round=>
 obtain ⟨j,Ax,cx,ks,rfl,rfl,hj,hkl,hkb,hown,hf⟩:=hrel
 have hfw:Fr Non w wr:=f0.trans hf zr
 by_cases hlt:j<4
 ·
  have i1:decide ((j:Int)<4)=true:=decide_eq_true (by omega)
  have szr:=Nat.le_trans sz0 hf.size
  have hrow:=hown.row
  clear hfin kA kH kC kS kL kO hpl hallp hclp hfst hNl hNl2 g0 g1 bg br
  as_aux_lemma=>
  go_upto_if 17 with (fail)
  go_cut [7] from 17 to 22 (fun s wc=>∃q:Nat,s=.int .i64 (q:Int)∧q<1000000∧Own wc w0.heap.size 3 1 Ax j cx (ks.map Qv)∧Fr Non w0 wc)
  case first=>
   by_cases hjn:j<n
   ·
    obtain ⟨b,off,u,rfl,hbB,hu,c0⟩:=hr.at hjn
    obtain ⟨x,hx⟩:∃x,l0[j]? =some x:=⟨_,List.getElem?_eq_getElem (by rw [hn.out];exact hjn)⟩
    rw [List.getElem?_map,hx] at hu
    injection hu with hu
    subst hu
    replace c0:w.cell? ⟨b,off+j,none⟩=some (.int .i64 x):=c0
    have c1:=hfw.cell c0 zq
    have kx:=Lib.hid (kar.out x (List.mem_of_getElem? hx))
    obtain ⟨ba1,ba2⟩:=around_bd (n:=x) (m:=1000000) (by decide)
    obtain ⟨p,hp⟩:∃p:Nat,around x 1000000=(p:Int):=⟨(around x 1000000).toNat,by omega⟩
    rw [hp] at kx ba2
    have j1:(0:Int)≤j:=by omega
    have j2:(j:Int)<n:=by omega
    have j3:(j:Int).toNat=j:=by omega
    have t:decide ((j:Int)<(n:Int))=true:=decide_eq_true (by omega)
    have hpb:Hid (p<1000000):=by show p<1000000;omega
    clear kar hx hok hp ba1 ba2
    go_wp2_with (go_at_call 25;(with_reducible refine (kx.out _).mono ?_);rintro _ v ⟨rfl,ew⟩;have fq:Fr Non wr v:=ew▸Fr.refl _ _;clear ew)
    go_meet
    exact ⟨p,rfl,hpb.out,hown.fr fq zr,hf.trans fq zr⟩
   ·
    have t:decide ((j:Int)<(n:Int))=false:=decide_eq_false (by omega)
    go_wp2_with (fail)
    go_meet
    exact ⟨0,rfl,by omega,hown,hf⟩
  case rest=>
   obtain ⟨q,rfl,hq,ownc,fc⟩:=hcut
   have szc:=Nat.le_trans sz0 fc.size
   have hnb:=Blk.new wc 3 #[.int .i64 (q:Int)]
   have own1:=ownc.alloc (.cells #[.int .i64 (q:Int)] 3)
   go_wp2_with (at_builtin;go_loud (refine wpList_app (base:=w0.heap.size) (.tmp 23) (.tmp 25) 22 rfl rfl rfl rfl slInt own1 (Rd.blk (n:=1) (size:=1) hnb rfl) (by simp [Value.oneCell']) (by omega) (by omega) (by rw [World.size_alloc];have h8:=fc.size;omega) ?_);intro A2 c2 w4 own4 fr4 hat4)
   have fz:Fr Non w0 w4:=(fc.alloc _).trans fr4 (fun k hk e=>by have h9:=(hrow k e).1;have h8:=hf.size;omega)
   have own5:Own w4 w0.heap.size 3 1 A2 (j+1) c2 ((ks++[q]).map Qv):=by
    rw [List.map_append]
    exact own4
   go_roundw
   case rel=>exact ⟨j+1,A2,c2,ks++[q],by go_num,rfl,by omega,(by show _=_;rw [List.length_append,hkl.out];rfl),(fun x hx=>by rcases List.mem_append.1 hx with h1|h1;exact hkb.out x h1;obtain rfl:=List.mem_singleton.1 h1;exact hq),own5,fz⟩
   case measure=>simp [intOf];omega
 ·
  obtain rfl:j=4:=by omega
  have i1:decide ((4:Int)<4)=false:=rfl
  obtain ⟨k0,k1,k2,k3,rfl⟩:∃a b c d,ks=[a,b,c,d]:=by
   match ks,hkl.out with
   |[a,b,c,d],_=>exact ⟨a,b,c,d,rfl⟩
  have q0:k0<1000000:=hkb.out k0 (by simp)
  have q1:k1<1000000:=hkb.out k1 (by simp)
  have q2:k2<1000000:=hkb.out k2 (by simp)
  have q3:k3<1000000:=hkb.out k3 (by simp)
  obtain ⟨_,h4|⟨b,off,rfl,hbb,hc⟩⟩:=hown.rd
  · exact absurd h4 (by decide)
  have L0:wr.cell? ⟨b,off,none⟩=some (.int .i64 (k0:Int)):=hc 0 _ rfl
  have L1:wr.cell? ⟨b,off+1,none⟩=some (.int .i64 (k1:Int)):=hc 1 _ rfl
  have L2:wr.cell? ⟨b,off+2,none⟩=some (.int .i64 (k2:Int)):=hc 2 _ rfl
  have L3:wr.cell? ⟨b,off+3,none⟩=some (.int .i64 (k3:Int)):=hc 3 _ rfl
  replace bg:=bg.fr hf zq
  replace br:=br.fr hf zq
  have e0:((k0:Nat):Int).tmod 4=(k0:Int)%4:=Int.tmod_eq_emod_of_nonneg (by omega)
  have e1:((k1:Nat):Int).tmod 3=(k1:Int)%3:=Int.tmod_eq_emod_of_nonneg (by omega)
  have e2:((k2:Nat):Int).tmod 5=(k2:Int)%5:=Int.tmod_eq_emod_of_nonneg (by omega)
  have e3:((k3:Nat):Int).tmod 5=(k3:Int)%5:=Int.tmod_eq_emod_of_nonneg (by omega)
  have e4:((k2:Nat):Int).tmod 3=(k2:Int)%3:=Int.tmod_eq_emod_of_nonneg (by omega)
  have e5:((k1:Nat):Int).tdiv 3=(k1:Int)/3:=Int.tdiv_eq_ediv_of_nonneg (by omega)
  have e6:((k1:Nat):Int).tdiv 100=(k1:Int)/100:=Int.tdiv_eq_ediv_of_nonneg (by omega)
  have e7:IntKind.i64.wrap (1+(k0:Int)%4)=1+(k0:Int)%4:=IntWalk.i64_in _ (by omega)
  have e8:IntKind.i64.wrap ((k1:Int)/3)=(k1:Int)/3:=IntWalk.i64_in _ (by omega)
  have e9:IntKind.i64.wrap ((k1:Int)/100)=(k1:Int)/100:=IntWalk.i64_in _ (by omega)
  have sz1:=Nat.le_trans sz0 hf.size
  have d0:=(bg.cell 0).trans g0.out
  have d1:=(bg.cell 1).trans g1.out
  clear hc hkb hkl hown hf f0 kar hr hn hok hlt hj g0 g1 hbb
  generalize wr=w1 at*
  go_upto_region 9 with (fail)
  go_cut [8] from 27 to 39 (fun s wc=>∃(y0:OpL) (gO:Nat),s=.pointer (some ⟨gO,0,none⟩)∧Blk wc gO 44 y0.cells∧y0.by_=1+(k0:Int)%4∧y0.op.ok∧y0.own wc (w.heap.size+2)∧w1.heap.size≤gO∧Fr Non w1 wc)
  case first=>
   clear hfin kA kH kC kS kL hpl hallp hclp hfst hNl hNl2
   as_aux_lemma=>
   have G0:=d0
   have F0:Fr Non w1 w1.drew:=(Fr.refl Non w1).drew
   have kq:=Lib.hid (fun (w':World)=>kO.out (1+(k0:Int)%4) k3 w' ⟨by omega,by omega⟩ (by omega))
   have M0:=L0
   have K0:=L3
   refine wp_region_gate (S:=fun w'=>w'.cell? ⟨w.heap.size,0,none⟩=some (.slice CA 4 CC)∧w'.cell? ⟨b,off,none⟩=some (.int .i64 (k0:Int))∧w'.cell? ⟨b,off+3,none⟩=some (.int .i64 (k3:Int))) 14 (by kernel_rfl) ?_
   refine tkG 0 ⟨G0,M0,K0⟩ (h:=tkG 1 ⟨G0,M0,K0⟩ (h:=tkG 2 ⟨G0,M0,K0⟩ (h:=tkG 3 ⟨G0,M0,K0⟩ (h:=tkG 4 ⟨G0,M0,K0⟩ (h:=tkG 5 ⟨G0,M0,K0⟩ (h:=tkG 6 ⟨G0,M0,K0⟩ (h:=tkG 7 ⟨G0,M0,K0⟩ (h:=tkG 8 ⟨G0,M0,K0⟩ (h:=tkG 9 ⟨G0,M0,K0⟩ (h:=tkG 10 ⟨G0,M0,K0⟩ (h:=tkG 11 ⟨G0,M0,K0⟩ (h:=?_))))))))))))
   simp only [List.set]
   refine wpAnyG_two 12 13 (by kernel_rfl) rfl rfl (fun K' hK=> ?_) (fun K' hK=> ?_)
   ·
    skip
    go_simp
    go_wp2_with (go_at_call 86;(with_reducible refine (kq.out _).mono ?_);rintro _ v1 ⟨y0,rfl,hby,hok0,own0,fq1⟩;have F1:=F0.trans fq1 zr;have own1:=own0.lower (base':=w.heap.size+2) sz1)
    have G1:=F1.cell G0 zq
    have M1:=F1.cell M0 zq
    have K1:=F1.cell K0 zq
    refine hK.out _ _ ⟨G1,M1,K1⟩ (fun hZ=> ?_)
    clear hZ hK K'
    try simp only [put_lit',List.set]
    refine wpAnyG_onlyL 13 (by kernel_rfl) rfl (fun K' hK=> ?_)
    go_simp
    have hnb:=Blk.new v1 44 zO
    have own2:=own1.non ((Fr.refl Non v1).alloc (.cells zO 44))
    have F2:Fr Non w1 (v1.alloc (.cells zO 44)):=F1.alloc _
    have hgs:=F1.size
    obtain ⟨ga,hga⟩:=hid_ex v1.heap.size
    rw [hga.out] at hnb hgs ⊢
    generalize v1.alloc (.cells zO 44)=v2 at*
    have G2:=F2.cell G0 zq
    have M2:=F2.cell M0 zq
    have K2:=F2.cell K0 zq
    refine hK.out _ _ ⟨G2,M2,K2⟩ (fun hZ=> ?_)
    clear hZ hK K'
    try simp only [put_lit',List.set]
    have hone:=one_cells y0
    have hst:=stS_blk (P:=Tryz.prog) ga 44 (cs:=y0.cells) hi (old:=zO) rfl hone
    refine wpAnyG_gate (by kernel_rfl) ?_
    refine oG 14 (fun K' hK=> ?_)
    go_simp
    have own3:=own2.opBlk hnb (one_row y0.cells)
    have b3:=hnb.setRow (cs:=y0.cells)
    have F3:Fr Non w1 (v2.setRow ga y0.cells):=F2.setRow (fun hh=>absurd hh (by omega)) _
    refine hK.out _ _ trivial (fun hZ=> ?_)
    clear hZ hK K'
    try simp only [put_lit',List.set]
    refine oD ?_
    go_simp
    go_wp2_with (fail)
    go_meet
    exact ⟨y0,ga,rfl,b3,hby,hok0,own3,hgs,F3⟩
   ·
    skip
    go_simp
    have hnb0:=(Blk.new w1 44 zO).drew
    have F1:Fr Non w1 (w1.alloc (.cells zO 44)).drew:=((Fr.refl Non w1).alloc _).drew
    have szA:w.heap.size+2≤(w1.alloc (.cells zO 44)).drew.heap.size:=Nat.le_trans sz1 F1.size
    have hgs:w1.heap.size≤w1.heap.size:=Nat.le_refl _
    obtain ⟨ga,hga⟩:∃x,Hid (w1.heap.size=x):=hid_ex _
    rw [hga.out] at hnb0 ⊢
    have hgs:w1.heap.size≤ga:=by rw [hga.out];exact Nat.le_refl _
    generalize (w1.alloc (.cells zO 44)).drew=v1 at*
    have G1:=F1.cell G0 zq
    have M1:=F1.cell M0 zq
    have K1:=F1.cell K0 zq
    refine hK.out _ _ ⟨G1,M1,K1⟩ (fun hZ=> ?_)
    clear hZ hK K'
    try simp only [put_lit',List.set]
    refine wpAnyG_onlyL 12 (by kernel_rfl) rfl (fun K' hK=> ?_)
    go_simp
    go_wp2_with (go_at_call 86;(with_reducible refine (kq.out _).mono ?_);rintro _ v2 ⟨y0,rfl,hby,hok0,own0,fq1⟩;have F2:=F1.trans fq1 zr;have own2:=own0.lower (base':=w.heap.size+2) szA;have hnb:=hnb0.fr fq1 zq)
    have G2:=F2.cell G0 zq
    have M2:=F2.cell M0 zq
    have K2:=F2.cell K0 zq
    refine hK.out _ _ ⟨G2,M2,K2⟩ (fun hZ=> ?_)
    clear hZ hK K'
    try simp only [put_lit',List.set]
    have hone:=one_cells y0
    have hst:=stS_blk (P:=Tryz.prog) ga 44 (cs:=y0.cells) hi (old:=zO) rfl hone
    refine wpAnyG_gate (by kernel_rfl) ?_
    refine oG 14 (fun K' hK=> ?_)
    go_simp
    have own3:=own2.opBlk hnb (one_row y0.cells)
    have b3:=hnb.setRow (cs:=y0.cells)
    have F3:Fr Non w1 (v2.setRow ga y0.cells):=F2.setRow (fun hh=>absurd hh (by omega)) _
    refine hK.out _ _ trivial (fun hZ=> ?_)
    clear hZ hK K'
    try simp only [put_lit',List.set]
    refine oD ?_
    go_simp
    go_wp2_with (fail)
    go_meet
    exact ⟨y0,ga,rfl,b3,hby,hok0,own3,hgs,F3⟩
  case rest=>
  obtain ⟨y0,gO,rfl,bO,hby,hok0,own0,hgO,f2⟩:=hcut
  generalize wc=wb at*
  have hD:1≤1+(k0:Int)%4∧1+(k0:Int)%4≤4:=by omega
  obtain ⟨D,hDe⟩:∃D:Nat,1+(k0:Int)%4=(D:Int):=⟨(1+(k0:Int)%4).toNat,by omega⟩
  rw [hDe] at hby hD
  have hD1:1≤D∧D≤4:=by omega
  clear hDe hD kO L0 d0 q0
  have d1c:=f2.cell d1 zq
  by_cases hz:N=0
  ·
   have t:((N:Int)==0)=true:=by simp [hz]
   clear kA kH kC kS kL hpl hallp hclp L1
   have hle:=hNl.out hz
   as_aux_lemma=>
   go_upto_region 11 with (fail)
   have F0:Fr Non w1 wb.drew:=f2.drew
   have Y0:wb.cell? ⟨gO,0,none⟩=some (.int .i64 (D:Int)):=by rw [bO.cell 0];show some (Value.int .i64 y0.by_)=_;rw [hby]
   have M0:=f2.cell L2 zq
   have K0:=f2.cell L3 zq
   refine wp_region_gate (S:=fun w'=>w'.cell? ⟨gO,0,none⟩=some (.int .i64 (D:Int))∧w'.cell? ⟨b,off+2,none⟩=some (.int .i64 (k2:Int))∧w'.cell? ⟨b,off+3,none⟩=some (.int .i64 (k3:Int))) 13 (by kernel_rfl) ?_
   refine tkG 0 ⟨Y0,M0,K0⟩ (h:=tkG 1 ⟨Y0,M0,K0⟩ (h:=tkG 2 ⟨Y0,M0,K0⟩ (h:=tkG 3 ⟨Y0,M0,K0⟩ (h:=tkG 4 ⟨Y0,M0,K0⟩ (h:=tkG 5 ⟨Y0,M0,K0⟩ (h:=tkG 6 ⟨Y0,M0,K0⟩ (h:=tkG 7 ⟨Y0,M0,K0⟩ (h:=tkG 8 ⟨Y0,M0,K0⟩ (h:=tkG 9 ⟨Y0,M0,K0⟩ (h:=tkG 10 ⟨Y0,M0,K0⟩ (h:=?_)))))))))))
   simp only [List.set]
   refine wpAnyG_onlyL 11 (by kernel_rfl) rfl (fun K' hK=> ?_)
   go_simp
   have nP:=(Blk.new wb 103 #[.int .u64 5,.slice none 0 0]).drew
   have fq1:Fr Non wb (wb.alloc (.cells #[.int .u64 5,.slice none 0 0] 103)).drew:=((Fr.refl Non wb).alloc _).drew
   have szp:=Nat.le_trans sz1 f2.size
   obtain ⟨gp,hgp⟩:=hid_ex wb.heap.size
   rw [hgp.out] at nP szp ⊢
   generalize (wb.alloc (.cells #[.int .u64 5,.slice none 0 0] 103)).drew=v1 at*
   have Y1:=fq1.cell Y0 zq
   have M1:=fq1.cell M0 zq
   have K1:=fq1.cell K0 zq
   refine hK.out _ _ ⟨Y1,M1,K1⟩ (fun hZ=> ?_)
   clear hZ hK K'
   try simp only [put_lit',List.set]
   refine wpAnyG_takeL (i:=12) (v:=?_) rfl (by kernel_rfl) (by kernel_rfl) (by kernel_rfl) (by kernel_rfl) (fun _ _ _ h=>h) (Or.inl ⟨by kernel_rfl,?_⟩) ⟨Y1,M1,K1⟩ ?_
   rotate_left
   focus (intro w' hSw;refine run_fsB (D:=(D:Int)) (a:=(k2:Int)%5) (v:=(k3:Int)%5) (A:=some ⟨gp,0,none⟩) ?_ ?_ ?_ ?_ ?_;rfl;rfl;rfl;rfl;exact fun _=>rfl)
   simp only [List.set]
   have bv:=bO.fr fq1 zq
   have hst:=stS_blk (P:=Tryz.prog) gO 44 (cs:=(fsL (D:Int) ((k2:Int)%5) ((k3:Int)%5) (some ⟨gp,0,none⟩)).cells) hi (old:=y0.cells) rfl (one_cells _)
   refine wpAnyG_gate (by kernel_rfl) ?_
   refine oG 13 (fun K' hK=> ?_)
   go_simp
   have bv2:=bv.setRow (cs:=(fsL (D:Int) ((k2:Int)%5) ((k3:Int)%5) (some ⟨gp,0,none⟩)).cells)
   have oP:Own v1 (w.heap.size+2) 103 2 (some ⟨gp,0,none⟩) 1 1 (([⟨5,none,0,[]⟩]:List NdL).flatMap NdL.cells):=by
    have h5:=Own.blk (base:=w.heap.size+2) (n:=1) (size:=2) nP szp (by omega) rfl (by omega)
    simpa [NdL.cells] using h5
   have hof:(fsL (D:Int) ((k2:Int)%5) ((k3:Int)%5) (some ⟨gp,0,none⟩)).own (v1.setRow gO (fsL (D:Int) ((k2:Int)%5) ((k3:Int)%5) (some ⟨gp,0,none⟩)).cells) (w.heap.size+2):=(fsL_own (RowAt.of_own oP)).opBlk bv (one_row _)
   have fv:Fr Non w1 (v1.setRow gO (fsL (D:Int) ((k2:Int)%5) ((k3:Int)%5) (some ⟨gp,0,none⟩)).cells):=(f2.trans fq1 zr).setRow (fun hh=>absurd hh (by omega)) _
   have hofk:(fsL (D:Int) ((k2:Int)%5) ((k3:Int)%5) (some ⟨gp,0,none⟩)).op.ok:=fsL_ok ⟨by omega,by omega⟩ ⟨by omega,by omega⟩ ⟨by omega,by omega⟩
   have htk:addErr CD [] (sgn (fsL (D:Int) ((k2:Int)%5) ((k3:Int)%5) (some ⟨gp,0,none⟩)).op)=0:=hfst.out (D:Int) ((k2:Int)%5) ((k3:Int)%5) (by omega) (by omega) (by omega)
   have hbyf:(fsL (D:Int) ((k2:Int)%5) ((k3:Int)%5) (some ⟨gp,0,none⟩)).by_=(D:Int):=rfl
   generalize fsL (D:Int) ((k2:Int)%5) ((k3:Int)%5) (some ⟨gp,0,none⟩)=X at*
   refine hK.out _ _ trivial (fun hZ=> ?_)
   clear hZ hK K'
   try simp only [put_lit',List.set]
   refine oD ?_
   go_simp
   generalize v1.setRow gO X.cells=v2 at*
   clear bv nP oP Y0 Y1 M0 M1 K0 K1 hst fq1
   have hlX:=ldS_blk (P:=Tryz.prog) gO 44 Tryz.underlying44 rfl (cs:=X.cells) hi
   have fw:Fr Non w v2:=hfw.trans fv zr
   have brv:=br.fr fv zq
   have ksg:=Lib.hid (signedo_any X D (w.heap.size+2) v2 hbyf (by omega) hof hofk)
   have hsok:Hid (∀y:OpL,y.op=sgn X.op→y.op.ok∧(l=[]→addErr CD [] y.op=0)):=fun y e=>by
    rw [e]
    exact ⟨sgn_ok hofk,fun _=>htk⟩
   have hiX:(Tryz.prog.info? 44).map (·.size)=some X.cells.size:=hi
   clear hfst hNl hNl2 hof hofk hbyf
   unfold SgnPost at ksg
   generalize sgn X.op=SO at*
   generalize X.cells=XC at*
   go_wp2_with (go_at_call 15;(with_reducible refine (ksg.out).mono ?_);rintro _ w5 ⟨y,rfl,hyo,hyw,f5⟩;go_loud (have br5:=brv.fr f5 zq;have hyp:=Lib.hid (hsok.out y hyo);have hd:=Lib.hid (fun wz hz=>hfin.out y w5 wz hyp.out.1 hyw (fw.trans f5 zr) br5 hz hyp.out.2);have hst:=stS_blk (P:=Tryz.prog) (w.heap.size+1) 44 (cs:=y.cells) hi (old:=zO) rfl (one_cells y);have hsz:(Tryz.prog.info? 44).map (·.size)=some y.cells.size:=hi;clear hfin hyp hyo hyw hsok ksg;generalize y.cells=YC at*))
   have hz2:=br5.setRow (cs:=YC)
   have hdd:=Lib.hid (hd.out _ (one_row YC))
   (try simp only [Exit.inBlock,Exit.then])
   refine ret_blk (t:=44) rfl rfl hz2 rfl Tryz.underlying44 hsz rfl ?_
   exact hdd.out
  ·
   have t:((N:Int)==0)=false:=by simp [hz]
   clear L3 q3 hfst
   have bgc:=bg.fr f2 zq
   have L1c:=f2.cell L1 zq
   have szc:=Nat.le_trans sz1 f2.size
   have fwc:Fr Non w wb:=hfw.trans f2 zr
   rw [← hallp.out.2] at kA
   go_upto_region 14 with (go_at_call 22;(with_reducible refine (kA.out _ fwc).mono ?_);rintro _ v0 ⟨A9,c9,rfl,o9,f9⟩)
   have L1v:=f9.cell L1c zq
   have B0:=bgc.fr f9 zq
   have fwv:Fr Non w v0:=fwc.trans f9 zr
   have szv:=Nat.le_trans szc f9.size
   replace o9:=o9.lower szc
   go_upto_if 65 with (fail)
   go_cut [9] from 65 to 76 (fun s wd=>∃(ids:List Id) (A9:Option Addr) (c9:Nat),s=.slice A9 ids.length c9∧Own wd (w.heap.size+2) 38 3 A9 ids.length c9 (ids.flatMap Id.cells)∧Hid (∀id∈ids,(plc l id).isSome=true)∧Hid (ids.length≤200)∧Fr Non wb wd)
   case first=>
    clear hfin kH kS kL hpl hNl hNl2 hok0 own0 bO
    as_aux_lemma=>
    by_cases ht:k1%3=1
    ·
     have t2:((k1:Int)%3==1)=true:=by simp;omega
     go_upto_region 15 with (fail)
     have Q0:=L1v
     refine wp_region_held_drew (S:=fun w'=>Blk w' w.heap.size 32 CS∧w'.cell? ⟨b,off+1,none⟩=some (.int .i64 (k1:Int))) (by kernel_rfl) ⟨B0,Q0⟩ (fun hHeld=> ?_)
     clear hHeld
     refine tkH 0 ⟨B0,Q0⟩ (h:=tkH 1 ⟨B0,Q0⟩ (h:=tkH 2 ⟨B0,Q0⟩ (h:=tkH 3 ⟨B0,Q0⟩ (h:=tkH 4 ⟨B0,Q0⟩ (h:=tkH 5 ⟨B0,Q0⟩ (h:=tkH 6 ⟨B0,Q0⟩ (h:=tkH 7 ⟨B0,Q0⟩ (h:=tkH 8 ⟨B0,Q0⟩ (h:=?_)))))))))
     simp only [List.set]
     refine oG 9 (fun K' hK=> ?_)
     go_simp
     have nP:=(Blk.new v0 3 #[.int .i64 ((k1:Int)/3),.int .i64 ((k1:Int)/100)]).drew
     have fq1:Fr Non v0 (v0.alloc (.cells #[.int .i64 ((k1:Int)/3),.int .i64 ((k1:Int)/100)] 3)).drew:=((Fr.refl Non v0).alloc _).drew
     obtain ⟨gp,hgp⟩:=hid_ex v0.heap.size
     rw [hgp.out] at nP ⊢
     generalize (v0.alloc (.cells #[.int .i64 ((k1:Int)/3),.int .i64 ((k1:Int)/100)] 3)).drew=v1 at*
     have B1:=B0.fr fq1 zq
     have Q1:=fq1.cell Q0 zq
     refine hK.out _ _ ⟨B1,Q1⟩ (fun hZ=> ?_)
     clear hZ hK K'
     try simp only [put_lit',List.set]
     have kcl:=Lib.hid (kC.out _ 2 2 (some ⟨gp,0,none⟩) [(k1:Int)/3,(k1:Int)/100] v1 (fwv.trans fq1 zr) rfl (Rd.blk (n:=2) (size:=1) nP rfl) (fun x hx=>by
      rcases List.mem_cons.1 hx with rfl|hx
      · exact ⟨by omega,by omega⟩
      ·
       obtain rfl:=List.mem_singleton.1 hx
       exact ⟨by omega,by omega⟩))
     unfold ClosedPost at kcl
     refine oG 10 (fun K' hK=> ?_)
     go_simp
     go_wp2_with (go_at_call 44;(with_reducible refine (kcl.out).mono ?_);rintro _ v2 ⟨cs,⟨A8,c8,rfl,o8,fq2⟩,hco,hrw⟩;have B2:=B1.fr fq2 zq;have Q2:=fq2.cell Q1 zq)
     refine hK.out _ _ ⟨B2,Q2⟩ (fun hZ=> ?_)
     clear hZ hK K'
     try simp only [put_lit',List.set]
     refine tkH 11 ⟨B2,Q2⟩ (h:=?_)
     simp only [List.set]
     refine oD ?_
     go_simp
     have hcp:=hclp.out cs hco
     go_wp2_with (fail)
     go_meet
     exact ⟨cs,A8,c8,rfl,o8.lower (Nat.le_trans szv fq1.size),hcp.1,hcp.2,(f9.trans fq1 zr).trans fq2 zr⟩
    ·
     have t2:((k1:Int)%3==1)=false:=by simp;omega
     go_wp2_with (fail)
     go_meet
     exact ⟨SI,A9,c9,rfl,o9,hallp.out.1,by show _≤_;rw [hallp.out.2];exact hfew,f9⟩
   case rest=>
   clear o9 L1v B0 fwv szv f9
   obtain ⟨ids,A8,c8,rfl,o9,hip,hil,f3⟩:=hcut
   generalize wc=wd at*
   obtain ⟨p1,p2,p3,p4,p5⟩:=hpl.out ids hip.out hil.out
   have hil2:=hil.out
   have p4b:=p4 (D:Int) ids.length
   have f23:Fr Non w1 wd:=f2.trans f3 zr
   have bOd:=bO.fr f3 zq
   have ownd:=own0.non f3
   have kh:=Lib.hid (kH.out _ ids.length c8 A8 ids wd (hfw.trans f23 zr) rfl o9.rd (by omega))
   have ks:=Lib.hid (fun (w':World) (ho:Own w' (w.heap.size+2) 38 3 A8 ids.length c8 (ids.flatMap Id.cells))=>kS.out _ ids.length c8 A8 ids (D:Int) w' rfl ho.rd (by omega) p3)
   have kl:=Lib.hid (fun (w':World) (hf:Fr Non w w') (ho:Own w' (w.heap.size+2) 38 3 A8 ids.length c8 (ids.flatMap Id.cells))=>kL.out _ ids.length c8 A8 ids w' hf rfl ho.rd (by omega))
   have p12:=Lib.hid (And.intro p1 p2)
   clear kA kH kC kS kL hpl hallp hclp L1 L1c q1 p4 hip own0 bO bgc d1 d1c p1 p2 p3
   unfold IdsPost at kh
   generalize headsL l ids=HL at*
   generalize seqTo ids (D:Int) ids.length=SQ at*
   generalize late l ids=LT at*
   have bgd:=bg.fr f23 zq
   have YC:y0.cells.size=27:=rfl
   have hy0:Hid (y0.cells[0]? =some (.int .i64 (D:Int))):=by show some (Value.int .i64 y0.by_)=_;rw [hby]
   have hy1:Hid (y0.cells[1]? =some (.int .i64 y0.sq)):=rfl
   have hy3:Hid (y0.cells[3]? =some (.int .i64 y0.at_)):=rfl
   have hy4:Hid (y0.cells[4]? =some (.slice y0.pastA y0.past.length y0.pastC)):=rfl
   have szd:=Nat.le_trans szc f3.size
   generalize wd=w3 at*
   go_upto_region 17 with (go_at_call 46;(with_reducible refine (kh.out).mono ?_);rintro _ v3 ⟨A4,c4,rfl,o4,f4⟩;have bO4:=bOd.fr f4 zq;have m4:=(bO4.cell 4).trans hy4.out;have z4:=bO4.frozen 4)
   have f24:Fr Non w1 (v3.setCell ⟨gO,4,none⟩ (.slice A4 HL.length c4)):=(f23.trans f4 zr).setNew hgO 4 _
   have bO5:=bO4.set 4 (.slice A4 HL.length c4)
   have oI5:=Own.setFar (i:=4) (o9.fr f4 zr) bO4 (by decide) (.slice A4 HL.length c4)
   have oH5:=Own.setFar (i:=4) (o4.lower szd) bO4 (by decide) (.slice A4 HL.length c4)
   have own5:=(ownd.non f4).opBlk bO4 (one_set (i:=4) (.slice A4 HL.length c4))
   generalize v3.setCell ⟨gO,4,none⟩ (.slice A4 HL.length c4)=w4 at*
   clear kh m4 z4 bO4 bOd f4 o4 o9 ownd f23 bgd
   have bg4:=bg.fr f24 zq
   have Y4:w4.cell? ⟨gO,0,none⟩=some (.int .i64 (D:Int)):=(bO5.cell 0).trans hy0.out
   go_upto_region 18 with (go_at_call 51;(with_reducible refine (ks.out _ oI5).mono ?_);rintro _ v4 ⟨rfl,f5⟩;have bO6:=bO5.fr f5 zq;have m5:v4.cell? ⟨gO,1,none⟩=some (.int .i64 y0.sq):=(bO6.cell 1).trans hy1.out;have z5:=bO6.frozen 1)
   have f25:Fr Non w1 (v4.setCell ⟨gO,1,none⟩ (.int .i64 (SQ+1))):=(f24.trans f5 zr).setNew hgO 1 _
   have bO7:=bO6.set 1 (.int .i64 (SQ+1))
   have oI7:=Own.setFar (i:=1) (oI5.fr f5 zr) bO6 (by decide) (.int .i64 (SQ+1))
   have oH7:=Own.setFar (i:=1) (oH5.fr f5 zr) bO6 (by decide) (.int .i64 (SQ+1))
   have own7:=(own5.non f5).opBlk bO6 (one_set (i:=1) (.int .i64 (SQ+1)))
   generalize v4.setCell ⟨gO,1,none⟩ (.int .i64 (SQ+1))=w5 at*
   clear ks m5 z5 bO6 bO5 f5 oI5 oH5 own5 f24 Y4 bg4
   have B0:=(bg.fr f25 zq).drew
   have M0:w5.drew.cell? ⟨b,off+2,none⟩=some (.int .i64 (k2:Int)):=f25.cell L2 zq
   have F0:Fr Non w1 w5.drew:=f25.drew
   have e10:IntKind.i64.wrap (LT+(k2:Int)%3)=LT+(k2:Int)%3:=IntWalk.i64_in _ (by omega)
   refine wp_region_gate (S:=fun w'=>Blk w' w.heap.size 32 CS∧w'.cell? ⟨b,off+2,none⟩=some (.int .i64 (k2:Int))) 9 (by kernel_rfl) ?_
   refine tkG 0 ⟨B0,M0⟩ (h:=tkG 1 ⟨B0,M0⟩ (h:=tkG 3 ⟨B0,M0⟩ (h:=tkG 4 ⟨B0,M0⟩ (h:=tkG 5 ⟨B0,M0⟩ (h:=tkG 6 ⟨B0,M0⟩ (h:=?_))))))
   simp only [List.set]
   refine wpAnyG_onlyL 2 (by kernel_rfl) rfl (fun K' hK=> ?_)
   go_simp
   go_wp2_with (go_at_call 52;(with_reducible refine (kl.out _ (hfw.trans F0 zr) oI7.drew).mono ?_);rintro _ v1 ⟨rfl,fq1⟩;go_loud (have B1:=B0.fr fq1 zq;have M1:=fq1.cell M0 zq))
   refine hK.out _ _ ⟨B1,M1⟩ (fun hZ=> ?_)
   clear hZ hK K'
   try simp only [put_lit',List.set]
   refine tkG 7 ⟨B1,M1⟩ (h:=tkG 8 ⟨B1,M1⟩ (h:=?_))
   simp only [List.set]
   have fq:Fr Non w5 v1:=((Fr.refl Non w5).drew).trans fq1 zr
   have bO8:=bO7.fr fq zq
   have m8:v1.cell? ⟨gO,3,none⟩=some (.int .i64 y0.at_):=(bO8.cell 3).trans hy3.out
   have z8:=bO8.frozen 3
   refine wpAnyG_gate (by kernel_rfl) ?_
   refine oG 9 (fun K' hK=> ?_)
   go_simp
   have AT:(Value.int .i64 (LT+(k2:Int)%3))=.int .i64 (LT+(k2:Int)%3):=rfl
   have fv:Fr Non w1 (v1.setCell ⟨gO,3,none⟩ (.int .i64 (LT+(k2:Int)%3))):=(F0.trans fq1 zr).setNew hgO 3 _
   have bv2:Blk (v1.setCell ⟨gO,3,none⟩ (.int .i64 (LT+(k2:Int)%3))) gO 44 (nxL y0 A4 c4 HL (SQ+1) (LT+(k2:Int)%3)).cells:=bO8.set 3 (.int .i64 (LT+(k2:Int)%3))
   have oH8:=Own.setFar (i:=3) (oH7.fr fq zr) bO8 (by decide) (.int .i64 (LT+(k2:Int)%3))
   have own8:=(own7.non fq).opBlk bO8 (one_set (i:=3) (.int .i64 (LT+(k2:Int)%3)))
   have hof:=nxL_own (s:=SQ+1) (a:=LT+(k2:Int)%3) own8 (RowAt.of_own oH8)
   have hofk:(nxL y0 A4 c4 HL (SQ+1) (LT+(k2:Int)%3)).op.ok:=nxL_ok hok0 p12.out ⟨by omega,by omega⟩ ⟨by omega,by omega⟩
   have hbyf:(nxL y0 A4 c4 HL (SQ+1) (LT+(k2:Int)%3)).by_=(D:Int):=hby
   have hlz:l≠[]:=fun e=>hz (hNl2.out e)
   generalize nxL y0 A4 c4 HL (SQ+1) (LT+(k2:Int)%3)=X at*
   refine hK.out _ _ trivial (fun hZ=> ?_)
   clear hZ hK K'
   try simp only [put_lit',List.set]
   refine oD ?_
   go_simp
   generalize v1.setCell ⟨gO,3,none⟩ (.int .i64 (LT+(k2:Int)%3))=v2 at*
   clear bO7 bO8 m8 z8 oH8 own8 oH7 own7 oI7 M0 M1 B0 B1 F0 fq fq1 kl p12 hok0 AT
   have hlX:=ldS_blk (P:=Tryz.prog) gO 44 Tryz.underlying44 rfl (cs:=X.cells) hi
   have fw:Fr Non w v2:=hfw.trans fv zr
   have brv:=br.fr fv zq
   have ksg:=Lib.hid (signedo_any X D (w.heap.size+2) v2 hbyf (by omega) hof hofk)
   have hsok:Hid (∀y:OpL,y.op=sgn X.op→y.op.ok∧(l=[]→addErr CD [] y.op=0)):=fun y e=>by
    rw [e]
    exact ⟨sgn_ok hofk,fun e=>absurd e hlz⟩
   have hiX:(Tryz.prog.info? 44).map (·.size)=some X.cells.size:=hi
   clear hNl hNl2 hof hofk hbyf
   unfold SgnPost at ksg
   generalize sgn X.op=SO at*
   generalize X.cells=XC at*
   go_wp2_with (go_at_call 15;(with_reducible refine (ksg.out).mono ?_);rintro _ w5 ⟨y,rfl,hyo,hyw,f5⟩;go_loud (have br5:=brv.fr f5 zq;have hyp:=Lib.hid (hsok.out y hyo);have hd:=Lib.hid (fun wz hz=>hfin.out y w5 wz hyp.out.1 hyw (fw.trans f5 zr) br5 hz hyp.out.2);have hst:=stS_blk (P:=Tryz.prog) (w.heap.size+1) 44 (cs:=y.cells) hi (old:=zO) rfl (one_cells y);have hsz:(Tryz.prog.info? 44).map (·.size)=some y.cells.size:=hi;clear hfin hyp hyo hyw hsok ksg;generalize y.cells=YC at*))
   have hz2:=br5.setRow (cs:=YC)
   have hdd:=Lib.hid (hd.out _ (one_row YC))
   (try simp only [Exit.inBlock,Exit.then])
   refine ret_blk (t:=44) rfl rfl hz2 rfl Tryz.underlying44 hsz rfl ?_
   exact hdd.out
end Oq
namespace Oq
attribute [local go_sem] Bool.not_false Bool.not_true
attribute [local go_sem ↓] loadAt_G storeAt_G
def rg0 (A:Option Addr) (c:Nat) (cs:List Cd):RG:=⟨A,c,cs,none,0,[],none,0,none,0,[],none,0,[],[]⟩
theorem rg0_own {A:Option Addr} {c:Nat} {cs:List Cd} {w:World} {base:Nat} (h:RowAt w base 81 5 A cs.length c (cs.flatMap Cd.cells)) (hf:cs.length≤1000) (hk:∀c∈cs,c.s<18446744073709551616):(rg0 A c cs).own w base where
 cards:=h
 ops:=RowAt.nil _ _ _ _
 each _ hx:=absurd hx List.not_mem_nil
 same:=rfl
 ok _ hx:=absurd hx List.not_mem_nil
 ids:=RowAt.nil _ _ _ _
 ups:=RowAt.nil _ _ _ _
 eachU _ hx:=absurd hx List.not_mem_nil
 sameU:=rfl
 ins:=RowAt.nil _ _ _ _
 eachN _ hx:=absurd hx List.not_mem_nil
 sameN:=rfl
 rows:=Rows.nil
 cfew:=hf
 cok:=hk
theorem rnew_any (n c:Nat) (A:Option Addr) (w:World):
  Calls Tryz.prog 54 #[.slice A n c] w fun e w'=>e=.returned (.agg #[.slice A n c,.slice none 0 0,.slice none 0 0,.slice none 0 0,.slice none 0 0])∧Fr Non w w':=by
 have hG:(Tryz.prog.info? 32).map (·.size)=some (#[.slice A n c,.slice none 0 0,.slice none 0 0,.slice none 0 0,.slice none 0 0]:Array Value).size:=infoG
 have br:=Blk.new w 32 zG
 have f0:Fr Non w (w.alloc (.cells zG 32)):=(Fr.refl Non w).alloc _
 have hst:=stS_blk (P:=Tryz.prog) w.heap.size 32 (cs:=#[.slice A n c,.slice none 0 0,.slice none 0 0,.slice none 0 0,.slice none 0 0]) hG (old:=zG) rfl (by simp [Value.oneCell'])
 go_enter Tryz.func54,Tryz.ntmps54
 go_upto_region 1 with (fail)
 have hz2:=br.setRow (cs:=#[.slice A n c,.slice none 0 0,.slice none 0 0,.slice none 0 0,.slice none 0 0])
 have fz:=f0.setRow (g:=w.heap.size) (fun hh=>absurd hh (by omega)) #[.slice A n c,.slice none 0 0,.slice none 0 0,.slice none 0 0,.slice none 0 0]
 go_wp2_with (fail)
 (try simp only [Exit.inBlock,Exit.then])
 refine ret_blk (t:=32) rfl rfl hz2 rfl Tryz.underlying32 hG rfl ?_
 exact ⟨rfl,fz⟩
theorem wpAnyH_two {P:Program} {Q:Exit→Act→World→Prop} {l:List Oper} {md:Region.Mode} {S:World→Prop} {fuel:Nat} {listed:Array Bool} {a:Act} {w:World} (i j:Nat) {d:Option Tmp} {op:Go.Op} {ty:TypeId} {pos:String} {after:Array Edge} {g:Option (Nat × Bool)} {d':Option Tmp} {op':Go.Op} {ty':TypeId} {pos':String} {after':Array Edge} {g':Option (Nat × Bool)}
  (hr:Region.ready md l.toArray listed=[i,j]) (ho:l[i]? =some ⟨d,op,ty,pos,after,g⟩) (ho':l[j]? =some ⟨d',op',ty',pos',after',g'⟩)
  (hw:Region.wanted ⟨d,op,ty,pos,after,g⟩ (yielded l.toArray a.tmps)=true) (hw':Region.wanted ⟨d',op',ty',pos',after',g'⟩ (yielded l.toArray a.tmps)=true)
  (h:∀K':Act→World→Prop,Shut (∀a w,S w→(S w→wpAnyH P md l.toArray Q S fuel (listed.setIfInBounds i true) a w)→K' a w)→Oper.wp P ⟨d,op,ty,pos,after,g⟩ a w K' Q)
  (h':∀K':Act→World→Prop,Shut (∀a w,S w→(S w→wpAnyH P md l.toArray Q S fuel (listed.setIfInBounds j true) a w)→K' a w)→Oper.wp P ⟨d',op',ty',pos',after',g'⟩ a w K' Q):
  wpAnyH P md l.toArray Q S (fuel+1) listed a w:=
 wpAnyH_ready hr (by simp) (AllReadyH.cons (by rw [List.getElem?_toArray];exact ho) (fun K' hK=>by rw [if_pos hw];exact h K' hK) (AllReadyH.cons (by rw [List.getElem?_toArray];exact ho') (fun K' hK=>by rw [if_pos hw'];exact h' K' hK) AllReadyH.nil))
theorem rd_drop {w:World} {B n c m:Nat} {A:Option Addr} {xs:List Value} (h:Rd w B 1 A n xs) (hm:m≤n) (hc:n≤c):Rd w B 1 (if c=m then A else A.map (fun x=>x.add m)) (n-m) (xs.drop m):=by
 have hl:=h.1
 refine ⟨by rw [List.length_drop];omega,?_⟩
 by_cases hz:n-m=0
 · exact .inl hz
 ·
  have hcm:¬c=m:=by omega
  rw [if_neg hcm]
  rcases h.2 with h0|⟨b,off,rfl,hb,hx⟩
  · exact absurd h0 (by omega)
  ·
   refine .inr ⟨b,off+m,by simp [Addr.add],hb,fun j u hu=> ?_⟩
   rw [List.getElem?_drop] at hu
   have h5:=hx (m+j) u hu
   rw [← Nat.add_assoc] at h5
   exact h5
def MadePost (w:World) (e:Ending) (w':World):Prop:=
 ∃r:RG,e=.returned (.agg r.cells)∧Fr Non w w'∧r.own w' w.heap.size∧r.cards=cardsFrom 0 [1,2,3,1]∧r.l≠[]
theorem made_cok:∀c∈cardsFrom 0 [1,2,3,1],c.s<18446744073709551616:=fun c hc=>by
 obtain ⟨xs,h1,_,_,h4⟩:=cards_rise [1,2,3,1] 0 (by decide)
 rw [← h1] at hc
 obtain ⟨x,hx,rfl⟩:=List.mem_map.1 hc
 exact h4 x hx
theorem made_any (B n c:Nat) (A:Option Addr) (l0:List Int) (w:World) (hn:Hid (l0.length=n)) (hr:Rd w B 1 A n (l0.map Iv)) (hnc:n≤c) (_hnm:c≤9223372036854775807) (hok:∀x∈l0,I64 x):
  Calls Tryz.prog 12 #[.slice A n c] w (MadePost w):=by
 have hG:∀r:RG,(Tryz.prog.info? 32).map (·.size)=some r.cells.size:=fun r=>infoG
 have kc:=Lib.hid (fun (w':World) (hr:Rd w' w'.heap.size 1 (some ⟨w.heap.size+1,0,none⟩) 4 (([1,2,3,1]:List Int).map Iv))=>cards_any 4 4 (some ⟨w.heap.size+1,0,none⟩) [1,2,3,1] w' rfl (by decide) hr)
 have kn:=Lib.hid (fun (n' c':Nat) (A':Option Addr) (w':World)=>rnew_any n' c' A' w')
 have kx:=Lib.hid (fun (r:RG) (B' n' c':Nat) (A':Option Addr) (l1:List Int) (w':World) h hcs hn hr hok=>rnext_any w.heap.size B' n' c' r A' l1 w' h hcs hn hr hok)
 have ka:=Lib.hid (fun (r:RG) (x:OpL) (w':World) h hx hb hok=>radd_any w.heap.size r x w' h hx hb hok)
 have br:=(Blk.new w 32 zG).alloc (.cells #[.int .i64 1,.int .i64 2,.int .i64 3,.int .i64 1] 3)
 have bi:=Blk.new (w.alloc (.cells zG 32)) 3 #[.int .i64 1,.int .i64 2,.int .i64 3,.int .i64 1]
 rw [World.size_alloc] at bi
 have f0:Fr Non w ((w.alloc (.cells zG 32)).alloc (.cells #[.int .i64 1,.int .i64 2,.int .i64 3,.int .i64 1] 3)):=((Fr.refl Non w).alloc _).alloc _
 have sz0:w.heap.size+2≤((w.alloc (.cells zG 32)).alloc (.cells #[.int .i64 1,.int .i64 2,.int .i64 3,.int .i64 1] 3)).heap.size:=by
  rw [World.size_alloc,World.size_alloc]
  exact Nat.le_refl _
 go_enter Tryz.func12,Tryz.ntmps12
 go_upto_region 1 with (fail)
 generalize hw0:(w.alloc (.cells zG 32)).alloc (.cells #[.int .i64 1,.int .i64 2,.int .i64 3,.int .i64 1] 3)=w0 at*
 unfold CardsPost at kc
 have hrd:Rd w0 w0.heap.size 1 (some ⟨w.heap.size+1,0,none⟩) 4 (([1,2,3,1]:List Int).map Iv):=by
  rw [← hw0] at bi ⊢
  exact Rd.blk (n:=4) (size:=1) bi rfl
 go_upto_region 2 with (first
  |(go_at_call 40;(with_reducible refine (kc.out _ hrd).mono ?_);rintro _ w1 ⟨A1,c1,rfl,o1,f1⟩;have ff1:=f0.trans f1 zr;have br1:=br.fr f1 zq)
  |(go_at_call 54;(with_reducible refine (kn.out _ _ _ _).mono ?_);rintro _ w2 ⟨rfl,f2⟩;have ff2:=ff1.trans f2 zr;have br2:=br1.fr f2 zq;have o2:=o1.fr f2 zr;have bn:=Blk.new w2 32 zG;have hst:=stS_blk (P:=Tryz.prog) w2.heap.size 32 (cs:=#[.slice A1 4 c1,.slice none 0 0,.slice none 0 0,.slice none 0 0,.slice none 0 0]) (hG (rg0 A1 c1 (cardsFrom 0 [1,2,3,1]))) (old:=zG) rfl (by simp [Value.oneCell'])))
 have br3:=(br2.alloc (.cells zG 32)).setRow_far (g':=w2.heap.size) (by have:=br2.lt;omega) (cs:=#[.slice A1 4 c1,.slice none 0 0,.slice none 0 0,.slice none 0 0,.slice none 0 0])
 have bn3:Blk ((w2.alloc (.cells zG 32)).setRow w2.heap.size #[.slice A1 4 c1,.slice none 0 0,.slice none 0 0,.slice none 0 0,.slice none 0 0]) w2.heap.size 32 (rg0 A1 c1 (cardsFrom 0 [1,2,3,1])).cells:=bn.setRow (cs:=#[.slice A1 4 c1,.slice none 0 0,.slice none 0 0,.slice none 0 0,.slice none 0 0])
 have fG:Fr Non w2 ((w2.alloc (.cells zG 32)).setRow w2.heap.size #[.slice A1 4 c1,.slice none 0 0,.slice none 0 0,.slice none 0 0,.slice none 0 0]):=((Fr.refl Non w2).alloc _).setRow (fun hh=>absurd hh (by omega)) _
 have sz2:w.heap.size<w2.heap.size:=br2.lt
 have f3:=ff2.trans fG zr
 have own3:(rg0 A1 c1 (cardsFrom 0 [1,2,3,1])).own ((w2.alloc (.cells zG 32)).setRow w2.heap.size #[.slice A1 4 c1,.slice none 0 0,.slice none 0 0,.slice none 0 0,.slice none 0 0]) w.heap.size:=rg0_own ((RowAt.of_own (o2.fr fG zr)).lower (by omega)) (by decide) made_cok
 clear hst bn br2 br1 br o1 o2 fG ff1 ff2 hrd
 obtain ⟨gv,hgv⟩:=hid_ex w2.heap.size
 rw [hgv.out] at bn3 own3 br3 f3 sz2 ⊢
 generalize (w2.alloc (.cells zG 32)).setRow gv #[.slice A1 4 c1,.slice none 0 0,.slice none 0 0,.slice none 0 0,.slice none 0 0]=w3 at*
 have hcd3:(rg0 A1 c1 (cardsFrom 0 [1,2,3,1])).cards=cardsFrom 0 [1,2,3,1]:=rfl
 have hl3:(rg0 A1 c1 (cardsFrom 0 [1,2,3,1])).l=[]:=rfl
 generalize rg0 A1 c1 (cardsFrom 0 [1,2,3,1])=r0 at*
 clear bi kc kn hw0 f0 sz0
 go_wp2_with (fail)
 go_loopw [4] (fun v wr=>∃(j:Nat) (r:RG),v=.int .i64 (j:Int)∧j≤14∧Blk wr gv 32 r.cells∧r.own wr w.heap.size∧r.cards=cardsFrom 0 [1,2,3,1]∧Hid ((j=0∧r.l=[])∨(0<j∧r.l≠[]))∧Blk wr w.heap.size 32 zG∧Fr Non w wr) (fun v _=>14-(intOf v).toNat)
 case atStart=>exact ⟨0,r0,rfl,by omega,bn3,own3,hcd3,.inl ⟨rfl,hl3⟩,br3,f3⟩
 case round=>
 clear bn3 own3 hcd3 hl3 br3 f3 r0
 obtain ⟨j,r,rfl,hj,bn,ro,hcd,hjl,br,hf⟩:=hrel
 by_cases hgo:j<14∧(j=0∨4*j<n)
 ·
  have t1:decide ((j:Int)<14)=true:=decide_eq_true (by omega)
  have ht:((j:Int)==0)=true∨(((j:Int)==0)=false∧decide (4*(j:Int)<(n:Int))=true):=by
   by_cases h1:j=0
   · exact .inl (by simp [h1])
   · exact .inr ⟨by simp;omega,decide_eq_true (by omega)⟩
  have e1:IntKind.i64.wrap (4*(j:Int))=4*(j:Int):=IntWalk.i64_in _ (by omega)
  obtain ⟨m,hm⟩:∃m:Nat,min n (4*j)=m:=⟨_,rfl⟩
  have e2:min (n:Int) (4*(j:Int))=(m:Int):=by omega
  have e3:min (4*(j:Int)) (n:Int)=(m:Int):=by omega
  have hmn:m≤n:=by omega
  go_upto_region 3 with (fail)
  go_cut [22] from 10 to 22 (fun s wc=>wr=wc∧s=.bool true)
  case first=>
   rcases ht with t2|⟨t2,t3⟩
   all_goals
    go_wp2_with (fail)
    go_meet
    exact ⟨rfl,rfl⟩
  case rest=>
  obtain ⟨rfl,rfl⟩:=hcut
  clear ht
  go_upto_region 5 with (fail)
  go_cut [5,6] from 25 to 38 (fun s5 s6 wc=>∃(gN:Nat) (r2:RG) (E:Int),s5=.pointer (some ⟨gN,0,none⟩)∧s6=.int .i64 E∧Blk wc gN 32 r2.cells∧r2.own wc w.heap.size∧r2.cards=cardsFrom 0 [1,2,3,1]∧Hid (E=0→r2.l≠[])∧Hid (j=0→E=0)∧Fr Non wr wc∧wr.heap.size≤gN)
  case first=>
   have V0:=bn
   have F0:Fr Non wr wr.drew:=(Fr.refl Non wr).drew
   have szr:w.heap.size≤wr.heap.size:=hf.size
   have rd1:Rd w B 1 (if c=m then A else A.map (fun x=>x.add m)) (n-m) ((l0.drop m).map Iv):=by
    rw [List.map_drop]
    exact rd_drop hr hmn hnc
   have kq:=Lib.hid (fun (w':World) (h':Fr Non wr w')=>kx.out r B (n-m) (c-m) (if c=m then A else A.map (fun x=>x.add m)) (l0.drop m) w' (ro.non h') hcd (by show (l0.drop m).length=n-m;rw [List.length_drop,hn.out]) (rd1.fr (hf.trans h' zr) zr) (fun x hx=>hok x (List.mem_of_mem_drop hx)))
   have hjE:Hid (∀(E:Int) (r2:RG) (o:Op),E=addErr r.cards r.l o→r2.l=(if addErr r.cards r.l o=0 then r.l++[addPn r.l o] else r.l)→(r.l=[]→addErr r.cards [] o=0)→(E=0→r2.l≠[])∧(j=0→E=0)):=by
    intro E r2 o h1 h2 h3
    refine ⟨fun h4=> ?_,fun h4=> ?_⟩
    ·
     rw [← h1,if_pos h4] at h2
     rw [h2]
     simp
    ·
     rcases hjl.out with ⟨_,h5⟩|⟨h5,_⟩
     ·
      rw [h1,h5]
      exact h3 h5
     · omega
   have hl:=ldS_blk (P:=Tryz.prog) gv 32 Tryz.underlying32 rfl (hG r)
   refine wp_region_held_drew (S:=fun w'=>Blk w' gv 32 r.cells) (by kernel_rfl) V0 (fun hHeld=> ?_)
   clear hHeld
   refine tkH 0 V0 (h:=tkH 1 V0 (h:=tkH 2 V0 (h:=tkH 3 V0 (h:=tkH 4 V0 (h:=tkH 5 V0 (h:=tkH 6 V0 (h:=tkH 7 V0 (h:=tkH 8 V0 (h:=?_)))))))))
   simp only [List.set]
   obtain ⟨AP,hAP⟩:=hid_ex (if c=m then A else A.map (fun x=>x.add m))
   rw [hAP.out] at kq ⊢
   have hcd2:=Lib.hid hcd
   clear hcd rd1 hAP
   refine wpAnyH_two 9 14 (by kernel_rfl) rfl rfl (by kernel_rfl) (by kernel_rfl) (fun K' hK=> ?_) (fun K' hK=> ?_)
   ·
    skip
    go_simp
    go_wp2_with (go_at_call 31;(with_reducible refine (kq.out _ F0).mono ?_);rintro _ v1 ⟨y,rfl,hyok,hyo,fq1,hy0⟩;go_loud (have F1:=F0.trans fq1 zr;have hy1:=hyo.lower (base':=w.heap.size) (Nat.le_trans szr F0.size)))
    have V1:=V0.fr F1 zq
    refine hK.out _ _ V1 (fun hZ=> ?_)
    clear hZ hK K'
    try simp only [put_lit',List.set]
    refine wpAnyH_two 10 14 (by kernel_rfl) rfl rfl (by kernel_rfl) (by kernel_rfl) (fun K' hK=> ?_) (fun K' hK=> ?_)
    ·
     skip
     go_simp
     have kad:=Lib.hid (ka.out r y _ (ro.non F1) hy1 (Nat.le_trans szr F1.size) hyok)
     unfold RAddPost at kad
     go_wp2_with (go_at_call 33;(with_reducible refine (kad.out).mono ?_);rintro _ v2 ⟨r2,rfl,fq2,ro2,hc2,hl2⟩;go_loud (have F2:=F1.trans fq2 zr))
     have V2:=V0.fr F2 zq
     refine hK.out _ _ V2 (fun hZ=> ?_)
     clear hZ hK K'
     try simp only [put_lit',List.set]
     refine tkH 11 V2 (h:=tkH 12 V2 (h:=?_))
     simp only [List.set]
     refine wpAnyH_two 13 14 (by kernel_rfl) rfl rfl (by kernel_rfl) (by kernel_rfl) (fun K' hK=> ?_) (fun K' hK=> ?_)
     ·
      skip
      go_simp
      refine hK.out _ _ V2 (fun hZ=> ?_)
      clear hZ hK K'
      try simp only [put_lit',List.set]
      refine oG 14 (fun K' hK=> ?_)
      go_simp
      have nb3:=Blk.new (v2) 32 zG
      have F3:Fr Non wr ((v2).alloc (.cells zG 32)):=F2.alloc _
      obtain ⟨ga,hga⟩:=hid_ex (v2).heap.size
      have hgs:wr.heap.size≤ga:=by rw [← hga.out];exact F2.size
      rw [hga.out] at nb3 ⊢
      have ro3:=ro2.non ((Fr.refl Non (v2)).alloc (.cells zG 32))
      generalize (v2).alloc (.cells zG 32)=v3 at*
      have V3:=V0.fr F3 zq
      refine hK.out _ _ V3 (fun hZ=> ?_)
      clear hZ hK K'
      try simp only [put_lit',List.set]
      refine oG 15 (fun K' hK=> ?_)
      have hst:=stS_blk (P:=Tryz.prog) ga 32 (hG r2) (old:=zG) rfl (one_G r2)
      go_simp
      have nb4:=nb3.setRow (cs:=r2.cells)
      have ro4:=ro3.keepP (one_row r2.cells) (Types.one nb3) (by decide) (by decide) (by decide) (by decide) (by decide) (by decide) (by decide) (by decide) (by decide) (by decide) (by decide) (by decide)
      have F4:Fr Non wr (v3.setRow ga r2.cells):=F3.setRow (fun hh=>absurd hh (by omega)) _
      clear hst
      generalize v3.setRow ga r2.cells=v4 at*
      have V4:=V0.fr F4 zq
      refine hK.out _ _ V4 (fun hZ=> ?_)
      clear hZ hK K'
      try simp only [put_lit',List.set]
      refine tkH 16 V4 (h:=?_)
      simp only [List.set]
      refine oD ?_
      go_simp
      have hje:=hjE.out _ r2 _ rfl hl2 hy0
      go_wp2_with (fail)
      go_meet
      exact ⟨ga,r2,_,rfl,rfl,nb4,ro4,by rw [hc2];exact hcd2.out,hje.1,hje.2,F4,hgs⟩
     ·
      skip
      go_simp
      have nb3:=Blk.new (v2) 32 zG
      have F3:Fr Non wr ((v2).alloc (.cells zG 32)):=F2.alloc _
      obtain ⟨ga,hga⟩:=hid_ex (v2).heap.size
      have hgs:wr.heap.size≤ga:=by rw [← hga.out];exact F2.size
      rw [hga.out] at nb3 ⊢
      have ro3:=ro2.non ((Fr.refl Non (v2)).alloc (.cells zG 32))
      generalize (v2).alloc (.cells zG 32)=v3 at*
      have V3:=V0.fr F3 zq
      refine hK.out _ _ V3 (fun hZ=> ?_)
      clear hZ hK K'
      try simp only [put_lit',List.set]
      refine wpAnyH_two 13 15 (by kernel_rfl) rfl rfl (by kernel_rfl) (by kernel_rfl) (fun K' hK=> ?_) (fun K' hK=> ?_)
      ·
       skip
       go_simp
       refine hK.out _ _ V3 (fun hZ=> ?_)
       clear hZ hK K'
       try simp only [put_lit',List.set]
       refine oG 15 (fun K' hK=> ?_)
       have hst:=stS_blk (P:=Tryz.prog) ga 32 (hG r2) (old:=zG) rfl (one_G r2)
       go_simp
       have nb4:=nb3.setRow (cs:=r2.cells)
       have ro4:=ro3.keepP (one_row r2.cells) (Types.one nb3) (by decide) (by decide) (by decide) (by decide) (by decide) (by decide) (by decide) (by decide) (by decide) (by decide) (by decide) (by decide)
       have F4:Fr Non wr (v3.setRow ga r2.cells):=F3.setRow (fun hh=>absurd hh (by omega)) _
       clear hst
       generalize v3.setRow ga r2.cells=v4 at*
       have V4:=V0.fr F4 zq
       refine hK.out _ _ V4 (fun hZ=> ?_)
       clear hZ hK K'
       try simp only [put_lit',List.set]
       refine tkH 16 V4 (h:=?_)
       simp only [List.set]
       refine oD ?_
       go_simp
       have hje:=hjE.out _ r2 _ rfl hl2 hy0
       go_wp2_with (fail)
       go_meet
       exact ⟨ga,r2,_,rfl,rfl,nb4,ro4,by rw [hc2];exact hcd2.out,hje.1,hje.2,F4,hgs⟩
      ·
       skip
       have hst:=stS_blk (P:=Tryz.prog) ga 32 (hG r2) (old:=zG) rfl (one_G r2)
       go_simp
       have nb4:=nb3.setRow (cs:=r2.cells)
       have ro4:=ro3.keepP (one_row r2.cells) (Types.one nb3) (by decide) (by decide) (by decide) (by decide) (by decide) (by decide) (by decide) (by decide) (by decide) (by decide) (by decide) (by decide)
       have F4:Fr Non wr (v3.setRow ga r2.cells):=F3.setRow (fun hh=>absurd hh (by omega)) _
       clear hst
       generalize v3.setRow ga r2.cells=v4 at*
       have V4:=V0.fr F4 zq
       refine hK.out _ _ V4 (fun hZ=> ?_)
       clear hZ hK K'
       try simp only [put_lit',List.set]
       refine oG 13 (fun K' hK=> ?_)
       go_simp
       refine hK.out _ _ V4 (fun hZ=> ?_)
       clear hZ hK K'
       try simp only [put_lit',List.set]
       refine tkH 16 V4 (h:=?_)
       simp only [List.set]
       refine oD ?_
       go_simp
       have hje:=hjE.out _ r2 _ rfl hl2 hy0
       go_wp2_with (fail)
       go_meet
       exact ⟨ga,r2,_,rfl,rfl,nb4,ro4,by rw [hc2];exact hcd2.out,hje.1,hje.2,F4,hgs⟩
    ·
     skip
     go_simp
     have nb2:=Blk.new (v1) 32 zG
     have F2:Fr Non wr ((v1).alloc (.cells zG 32)):=F1.alloc _
     obtain ⟨ga,hga⟩:=hid_ex (v1).heap.size
     have hgs:wr.heap.size≤ga:=by rw [← hga.out];exact F1.size
     rw [hga.out] at nb2 ⊢
     have hy2:=hy1.non ((Fr.refl Non (v1)).alloc (.cells zG 32))
     generalize (v1).alloc (.cells zG 32)=v2 at*
     have V2:=V0.fr F2 zq
     refine hK.out _ _ V2 (fun hZ=> ?_)
     clear hZ hK K'
     try simp only [put_lit',List.set]
     refine oG 10 (fun K' hK=> ?_)
     go_simp
     have kad:=Lib.hid (ka.out r y _ (ro.non F2) hy2 (Nat.le_trans szr F2.size) hyok)
     unfold RAddPost at kad
     go_wp2_with (go_at_call 33;(with_reducible refine (kad.out).mono ?_);rintro _ v3 ⟨r2,rfl,fq3,ro3,hc2,hl2⟩;go_loud (have F3:=F2.trans fq3 zr;have nb3:=nb2.fr fq3 zq))
     have V3:=V0.fr F3 zq
     refine hK.out _ _ V3 (fun hZ=> ?_)
     clear hZ hK K'
     try simp only [put_lit',List.set]
     refine tkH 11 V3 (h:=tkH 12 V3 (h:=?_))
     simp only [List.set]
     refine wpAnyH_two 13 15 (by kernel_rfl) rfl rfl (by kernel_rfl) (by kernel_rfl) (fun K' hK=> ?_) (fun K' hK=> ?_)
     ·
      skip
      go_simp
      refine hK.out _ _ V3 (fun hZ=> ?_)
      clear hZ hK K'
      try simp only [put_lit',List.set]
      refine oG 15 (fun K' hK=> ?_)
      have hst:=stS_blk (P:=Tryz.prog) ga 32 (hG r2) (old:=zG) rfl (one_G r2)
      go_simp
      have nb4:=nb3.setRow (cs:=r2.cells)
      have ro4:=ro3.keepP (one_row r2.cells) (Types.one nb3) (by decide) (by decide) (by decide) (by decide) (by decide) (by decide) (by decide) (by decide) (by decide) (by decide) (by decide) (by decide)
      have F4:Fr Non wr (v3.setRow ga r2.cells):=F3.setRow (fun hh=>absurd hh (by omega)) _
      clear hst
      generalize v3.setRow ga r2.cells=v4 at*
      have V4:=V0.fr F4 zq
      refine hK.out _ _ V4 (fun hZ=> ?_)
      clear hZ hK K'
      try simp only [put_lit',List.set]
      refine tkH 16 V4 (h:=?_)
      simp only [List.set]
      refine oD ?_
      go_simp
      have hje:=hjE.out _ r2 _ rfl hl2 hy0
      go_wp2_with (fail)
      go_meet
      exact ⟨ga,r2,_,rfl,rfl,nb4,ro4,by rw [hc2];exact hcd2.out,hje.1,hje.2,F4,hgs⟩
     ·
      skip
      have hst:=stS_blk (P:=Tryz.prog) ga 32 (hG r2) (old:=zG) rfl (one_G r2)
      go_simp
      have nb4:=nb3.setRow (cs:=r2.cells)
      have ro4:=ro3.keepP (one_row r2.cells) (Types.one nb3) (by decide) (by decide) (by decide) (by decide) (by decide) (by decide) (by decide) (by decide) (by decide) (by decide) (by decide) (by decide)
      have F4:Fr Non wr (v3.setRow ga r2.cells):=F3.setRow (fun hh=>absurd hh (by omega)) _
      clear hst
      generalize v3.setRow ga r2.cells=v4 at*
      have V4:=V0.fr F4 zq
      refine hK.out _ _ V4 (fun hZ=> ?_)
      clear hZ hK K'
      try simp only [put_lit',List.set]
      refine oG 13 (fun K' hK=> ?_)
      go_simp
      refine hK.out _ _ V4 (fun hZ=> ?_)
      clear hZ hK K'
      try simp only [put_lit',List.set]
      refine tkH 16 V4 (h:=?_)
      simp only [List.set]
      refine oD ?_
      go_simp
      have hje:=hjE.out _ r2 _ rfl hl2 hy0
      go_wp2_with (fail)
      go_meet
      exact ⟨ga,r2,_,rfl,rfl,nb4,ro4,by rw [hc2];exact hcd2.out,hje.1,hje.2,F4,hgs⟩
   ·
    skip
    go_simp
    have nb1:=Blk.new (wr) 32 zG
    have F1:Fr Non wr ((wr).alloc (.cells zG 32)):=(Fr.refl Non wr).alloc _
    obtain ⟨ga,hga⟩:=hid_ex (wr).heap.size
    have hgs:wr.heap.size≤ga:=by rw [← hga.out];exact Nat.le_refl _
    rw [hga.out] at nb1 ⊢
    replace nb1:=nb1.drew
    replace F1:=F1.drew
    generalize ((wr).alloc (.cells zG 32)).drew=v1 at*
    have V1:=V0.fr F1 zq
    refine hK.out _ _ V1 (fun hZ=> ?_)
    clear hZ hK K'
    try simp only [put_lit',List.set]
    refine oG 9 (fun K' hK=> ?_)
    go_simp
    go_wp2_with (go_at_call 31;(with_reducible refine (kq.out _ F1).mono ?_);rintro _ v2 ⟨y,rfl,hyok,hyo,fq2,hy0⟩;go_loud (have F2:=F1.trans fq2 zr;have hy2:=hyo.lower (base':=w.heap.size) (Nat.le_trans szr F1.size);have nb2:=nb1.fr fq2 zq))
    have V2:=V0.fr F2 zq
    refine hK.out _ _ V2 (fun hZ=> ?_)
    clear hZ hK K'
    try simp only [put_lit',List.set]
    refine oG 10 (fun K' hK=> ?_)
    go_simp
    have kad:=Lib.hid (ka.out r y _ (ro.non F2) hy2 (Nat.le_trans szr F2.size) hyok)
    unfold RAddPost at kad
    go_wp2_with (go_at_call 33;(with_reducible refine (kad.out).mono ?_);rintro _ v3 ⟨r2,rfl,fq3,ro3,hc2,hl2⟩;go_loud (have F3:=F2.trans fq3 zr;have nb3:=nb2.fr fq3 zq))
    have V3:=V0.fr F3 zq
    refine hK.out _ _ V3 (fun hZ=> ?_)
    clear hZ hK K'
    try simp only [put_lit',List.set]
    refine tkH 11 V3 (h:=tkH 12 V3 (h:=?_))
    simp only [List.set]
    refine wpAnyH_two 13 15 (by kernel_rfl) rfl rfl (by kernel_rfl) (by kernel_rfl) (fun K' hK=> ?_) (fun K' hK=> ?_)
    ·
     skip
     go_simp
     refine hK.out _ _ V3 (fun hZ=> ?_)
     clear hZ hK K'
     try simp only [put_lit',List.set]
     refine oG 15 (fun K' hK=> ?_)
     have hst:=stS_blk (P:=Tryz.prog) ga 32 (hG r2) (old:=zG) rfl (one_G r2)
     go_simp
     have nb4:=nb3.setRow (cs:=r2.cells)
     have ro4:=ro3.keepP (one_row r2.cells) (Types.one nb3) (by decide) (by decide) (by decide) (by decide) (by decide) (by decide) (by decide) (by decide) (by decide) (by decide) (by decide) (by decide)
     have F4:Fr Non wr (v3.setRow ga r2.cells):=F3.setRow (fun hh=>absurd hh (by omega)) _
     clear hst
     generalize v3.setRow ga r2.cells=v4 at*
     have V4:=V0.fr F4 zq
     refine hK.out _ _ V4 (fun hZ=> ?_)
     clear hZ hK K'
     try simp only [put_lit',List.set]
     refine tkH 16 V4 (h:=?_)
     simp only [List.set]
     refine oD ?_
     go_simp
     have hje:=hjE.out _ r2 _ rfl hl2 hy0
     go_wp2_with (fail)
     go_meet
     exact ⟨ga,r2,_,rfl,rfl,nb4,ro4,by rw [hc2];exact hcd2.out,hje.1,hje.2,F4,hgs⟩
    ·
     skip
     have hst:=stS_blk (P:=Tryz.prog) ga 32 (hG r2) (old:=zG) rfl (one_G r2)
     go_simp
     have nb4:=nb3.setRow (cs:=r2.cells)
     have ro4:=ro3.keepP (one_row r2.cells) (Types.one nb3) (by decide) (by decide) (by decide) (by decide) (by decide) (by decide) (by decide) (by decide) (by decide) (by decide) (by decide) (by decide)
     have F4:Fr Non wr (v3.setRow ga r2.cells):=F3.setRow (fun hh=>absurd hh (by omega)) _
     clear hst
     generalize v3.setRow ga r2.cells=v4 at*
     have V4:=V0.fr F4 zq
     refine hK.out _ _ V4 (fun hZ=> ?_)
     clear hZ hK K'
     try simp only [put_lit',List.set]
     refine oG 13 (fun K' hK=> ?_)
     go_simp
     refine hK.out _ _ V4 (fun hZ=> ?_)
     clear hZ hK K'
     try simp only [put_lit',List.set]
     refine tkH 16 V4 (h:=?_)
     simp only [List.set]
     refine oD ?_
     go_simp
     have hje:=hjE.out _ r2 _ rfl hl2 hy0
     go_wp2_with (fail)
     go_meet
     exact ⟨ga,r2,_,rfl,rfl,nb4,ro4,by rw [hc2];exact hcd2.out,hje.1,hje.2,F4,hgs⟩
  case rest=>
  obtain ⟨gN,r2,E,rfl,rfl,bN,ro2,hcd2,hE1,hE2,f2,hgN⟩:=hcut
  have bn2:=bn.fr f2 zq
  have br2:=br.fr f2 zq
  have fw2:=hf.trans f2 zr
  have roc:=ro.non f2
  clear bn br ro f2 hf kx ka
  by_cases hE:E=0
  ·
   have tE:(E==0)=true:=by simp [hE]
   have hl2:=ldS_blk (P:=Tryz.prog) gN 32 Tryz.underlying32 rfl (hG r2)
   have hst2:=stS_blk (P:=Tryz.prog) gv 32 (hG r2) (old:=r.cells) rfl (one_G r2)
   have bz:=bn2.setRow (cs:=r2.cells)
   have brz:=br2.setRow_far (g':=gv) (by omega) (cs:=r2.cells)
   have fz:=fw2.setRow (g:=gv) (fun hh=>absurd hh (by omega)) r2.cells
   have roz:=ro2.keepP (one_row r2.cells) (Types.one bn2) (by decide) (by decide) (by decide) (by decide) (by decide) (by decide) (by decide) (by decide) (by decide) (by decide) (by decide) (by decide)
   have hne:=hE1.out hE
   go_wp2_with (fail)
   go_roundw
   case rel=>exact ⟨j+1,r2,by go_num,by omega,bz,roz,hcd2,.inr ⟨by omega,hne⟩,brz,fz⟩
   case measure=>simp [intOf];omega
  ·
   have tE:(E==0)=false:=by simp [hE]
   have hj0:¬j=0:=fun e=>hE (hE2.out e)
   have hne:r.l≠[]:=by
    rcases hjl.out with ⟨h1,_⟩|⟨_,h1⟩
    · exact absurd h1 hj0
    · exact h1
   go_wp2_with (fail)
   go_roundw
   case rel=>exact ⟨j+1,r,by go_num,by omega,bn2,roc,hcd,.inr ⟨by omega,hne⟩,br2,fw2⟩
   case measure=>simp [intOf];omega
 ·
  have hne:r.l≠[]:=by
   rcases hjl.out with ⟨h1,_⟩|⟨_,h1⟩
   · exact absurd ⟨by omega,.inl h1⟩ hgo
   · exact h1
  have hd:Hid (MadePost w (.returned (.agg r.cells)) (wr.setRow w.heap.size r.cells)):=
   ⟨r,rfl,hf.setRow (g:=w.heap.size) (fun hh=>absurd hh (by omega)) r.cells,ro.keepP (one_row r.cells) (Types.one br) (by decide) (by decide) (by decide) (by decide) (by decide) (by decide) (by decide) (by decide) (by decide) (by decide) (by decide) (by decide),hcd,hne⟩
  have ht:decide ((j:Int)<14)=false∨(decide ((j:Int)<14)=true∧((j:Int)==0)=false∧decide (4*(j:Int)<(n:Int))=false):=by
   by_cases h1:j<14
   · exact .inr ⟨decide_eq_true (by omega),by simp;omega,decide_eq_false (by omega)⟩
   · exact .inl (decide_eq_false (by omega))
  have hl:=ldS_blk (P:=Tryz.prog) gv 32 Tryz.underlying32 rfl (hG r)
  have hst:=stS_blk (P:=Tryz.prog) w.heap.size 32 (hG r) (old:=zG) rfl (one_G r)
  have hGr:=hG r
  have hz2:=br.setRow (cs:=r.cells)
  clear hjl hne ro hcd hgo kx ka hok hr hn
  generalize MadePost w=POST at*
  generalize r.cells=CS at*
  rcases ht with t1|⟨t1,t2,t3⟩
  all_goals
   go_wp2_with (fail)
   (try simp only [Exit.inBlock,Exit.then])
   refine ret_blk (t:=32) rfl rfl hz2 rfl Tryz.underlying32 hGr rfl ?_
   exact hd.out
end Oq
end
section
open Go.RowKit
namespace Oq
end Oq
end
section
open Go.RowKit
attribute [local go_sem ↓] Go.wp_at_zero Go.wp_at_succ
namespace Oq
attribute [local go_sem ↓] loadAt_op storeAt_op
attribute [local go_sem] Bool.not_false Bool.not_true
def crL (b:Int):OpL:={OpL.zero with by_:=b,sq:=1,kind:=1}
theorem crL_op (b:Int):(crL b).op=crOp b:=rfl
theorem crL_own (b:Int) (w:World) (base:Nat):(crL b).own w base:=
 ⟨RowAt.nil _ _ _ _,RowAt.nil _ _ _ _,(fun _ h=>absurd h List.not_mem_nil),RowAt.nil _ _ _ _,RowAt.nil _ _ _ _,RowAt.nil _ _ _ _,RowAt.nil _ _ _ _,RowAt.nil _ _ _ _,(fun _ h=>absurd h List.not_mem_nil)⟩
theorem crOp_ok (b : Int) (hb : 1 ≤ b ∧ b ≤ 12) : (crOp b).ok :=
  ⟨⟨by show _ ≤ b; omega, by show b ≤ _; omega⟩, I64_1, I64_1, zero_I64, ⟨Nat.zero_le _, fun _ h => absurd h List.not_mem_nil⟩, zero_I64, zero_I64, zero_I64, zero_I64,
   ⟨Nat.zero_le _, fun _ h => absurd h List.not_mem_nil⟩, ⟨zero_I64, zero_I64, zero_U64⟩, zero_I64, Nat.zero_le _, ⟨Nat.zero_le _, fun _ h => absurd h List.not_mem_nil⟩, ⟨zero_I64, zero_I64, zero_U64⟩,
   ⟨Nat.zero_le _, fun _ h => absurd h List.not_mem_nil⟩, zero_I64, zero_I64, ⟨Nat.zero_le _, fun _ h => absurd h List.not_mem_nil⟩, zero_U64, ⟨Nat.zero_le _, fun _ h => absurd h List.not_mem_nil⟩, zero_U64, zero_U64⟩
def FirstPost (w:World) (r:Ending) (w':World):Prop:=∃y:OpL,r=.returned (.agg y.cells)∧y.op=sgn (crOp 1)∧(∀wz base,y.own wz base)∧Fr Non w w'
theorem first_any (w:World):Calls Tryz.prog 15 #[.agg #[.int .i64 1,.int .i64 1,.int .i64 1,.int .i64 0,.slice none 0 0,.int .i64 0,.int .i64 0,.int .i64 0,.int .i64 0,.slice none 0 0,.int .i64 0,.int .i64 0,.int .u64 0,.int .i64 0,.slice none 0 0,.slice none 0 0,.int .i64 0,.int .i64 0,.int .u64 0,.slice none 0 0,.int .i64 0,.int .i64 0,.slice none 0 0,.int .u64 0,.slice none 0 0,.int .u64 0,.int .u64 0]] w (FirstPost w):=by
 have h:=signed11_eq (crL 1) 1 w (by rw [show (crL 1).by_=1 from rfl,IntKind.wrap_u64];rfl) (by decide) (crL_own 1 w 0).at (by rw [crL_op];exact crOp_ok 1 (by decide))
 refine Calls.mono h ?_
 rintro r w' ⟨h1,h2⟩
 exact ⟨_,h1,sgn_of _ _ (crL_op 1) 1 rfl _ rfl,(fun wz base=>own_sig (crL_own 1 wz base) _ _),h2⟩
theorem node_at {g:Gph} {l:List Pn} (hl:g.pns=l) {i:Nat} {p:Pn} (h:l[i]? =some p):∃n,g.nodes[i]? =some n∧n.pn=p:=by
 subst hl
 unfold Gph.pns at h
 rw [List.getElem?_map] at h
 exact Option.map_eq_some_iff.1 h
theorem idn_any (y:OpL) (nm:Id) (hn:y.op.name=nm) (w:World) (hat:y.at w w.heap.size) (hok:y.op.ok):Calls Tryz.prog 35 #[.agg y.cells] w fun e w'=>e=.returned (.agg nm.V)∧Fr Non w w':=by
 have k:=id11_any y w hat hok
 obtain ⟨b,s,u⟩:=nm
 unfold Op.name at hn
 injection hn with h1 h2 h3
 rw [h3,show y.by_=b from h1,show y.sq=s from h2] at k
 exact k
theorem sort_one (x:Id):sortIds [x]=[x]:=rfl
end Oq
end
section
open Go.RowKit
namespace Oq
def lA:Op:=crOp 1
def lB:Op:=erOp 1 2 0 [lA.name]
def lC:Op:=erOp 2 1 3 [lA.name]
def lD:Op:=erOp 2 2 3 [lB.name,lC.name]
def pA:Pn:=⟨sgn lA,lA.name,fun _=>false,1⟩
def pB:Pn:=⟨sgn lB,lB.name,fun q=>q==0,2⟩
def pC:Pn:=⟨sgn lC,lC.name,fun q=>q==0,2⟩
def pD:Pn:=⟨sgn lD,lD.name,fun q=>decide (q<3),3⟩
theorem name_ne {o p:Op} (h:o.by_≠p.by_∨o.sq≠p.sq):o.name≠p.name:=by
 intro e
 have h1:o.name.b=p.name.b:=by rw [e]
 have h2:o.name.s=p.name.s:=by rw [e]
 rcases h with h|h
 · exact h h1
 · exact h h2
theorem neAB:lA.name≠lB.name:=name_ne (.inr (by decide))
theorem neAC:lA.name≠lC.name:=name_ne (.inl (by decide))
theorem neAD:lA.name≠lD.name:=name_ne (.inl (by decide))
theorem neBC:lB.name≠lC.name:=name_ne (.inl (by decide))
theorem neBD:lB.name≠lD.name:=name_ne (.inl (by decide))
theorem neCD:lC.name≠lD.name:=name_ne (.inr (by decide))
theorem lA_chk:lA.chk=0:=crOp_chk (by decide)
theorem lA_named:lA.name.named=true:=name_named (by decide) (by decide)
theorem lB_chk:lB.chk=0:=erOp_chk (by decide) (by decide) (by decide) ⟨by simp,by simpa using lA_named,List.pairwise_singleton _ _,by simp⟩
theorem lC_chk:lC.chk=0:=erOp_chk (by decide) (by decide) (by decide) ⟨by simp,by simpa using lA_named,List.pairwise_singleton _ _,by simp⟩
theorem lB_named:lB.name.named=true:=name_named (by decide) (by decide)
theorem lC_named:lC.name.named=true:=name_named (by decide) (by decide)
theorem less_BC:Id.less lB.name lC.name=true:=by
 unfold Id.less
 rw [if_neg (by show ¬(1:Int)=2;decide)]
 rfl
theorem lD_chk:lD.chk=0:=erOp_chk (by decide) (by decide) (by decide) ⟨by simp,by simpa using ⟨lB_named,lC_named⟩,by
 refine List.pairwise_cons.2 ⟨fun x hx=> ?_,List.pairwise_singleton _ _⟩
 obtain rfl:=List.mem_singleton.1 hx
 exact less_BC,by simp⟩
theorem sort_BC:sortIds [lB.name,lC.name]=[lB.name,lC.name]:=by
 refine (sortIds_unique ?_ (List.Perm.refl _)).symm
 refine List.pairwise_cons.2 ⟨fun x hx=> ?_,List.pairwise_singleton _ _⟩
 obtain rfl:=List.mem_singleton.1 hx
 exact Id.less_as less_BC
theorem plc_cons_ne {p:Pn} {l:List Pn} {id:Id} (h:p.id≠id):plc (p::l) id=(plc l id).map (· +1):=by
 unfold plc
 rw [List.findIdx?_cons]
 simp [h]
theorem plc_cons_eq {p:Pn} {l:List Pn} {id:Id} (h:p.id=id):plc (p::l) id=some 0:=by
 unfold plc
 rw [List.findIdx?_cons]
 simp [h]
theorem plA (l:List Pn):plc (pA::l) lA.name=some 0:=plc_cons_eq rfl
theorem plB (l:List Pn):plc (pA::pB::l) lB.name=some 1:=by rw [plc_cons_ne neAB,plc_cons_eq (p:=pB) (id:=lB.name) rfl];rfl
theorem plC (l:List Pn):plc (pA::pB::pC::l) lC.name=some 2:=by rw [plc_cons_ne neAC,plc_cons_ne neBC,plc_cons_eq (p:=pC) (id:=lC.name) rfl];rfl
theorem plD (l:List Pn):plc (pA::pB::pC::pD::l) lD.name=some 3:=by rw [plc_cons_ne neAD,plc_cons_ne neBD,plc_cons_ne neCD,plc_cons_eq (p:=pD) (id:=lD.name) rfl];rfl
theorem nlB:plc [pA] lB.name=none:=by rw [plc_cons_ne neAB];rfl
theorem nlC:plc [pA,pB] lC.name=none:=by rw [plc_cons_ne neAC,plc_cons_ne neBC];rfl
theorem nlD2:plc [pA,pB] lD.name=none:=by rw [plc_cons_ne neAD,plc_cons_ne neBD];rfl
theorem nlD3:plc [pA,pB,pC] lD.name=none:=by rw [plc_cons_ne neAD,plc_cons_ne neBD,plc_cons_ne neCD];rfl
theorem pA_by:pA.o.by_=1:=sgn_by _
theorem pB_by:pB.o.by_=1:=sgn_by _
theorem pC_by:pC.o.by_=2:=sgn_by _
theorem pA_sq:pA.o.sq=1:=sgn_sq _
theorem pC_sq:pC.o.sq=1:=sgn_sq _
theorem pA_at:pA.o.at_=0:=sgn_at _
theorem pB_at:pB.o.at_=0:=sgn_at _
theorem pC_at:pC.o.at_=3:=sgn_at _
theorem upA (l:List Pn) (q:Nat):upB (pA::l) lA.name q=false:=by unfold upB;rw [plA];rfl
theorem atA (l:List Pn):atOf (pA::l) lA.name=0:=by unfold atOf;rw [plA];exact pA_at
theorem lvA (l:List Pn):levOf (pA::l) lA.name=1:=by unfold levOf;rw [plA];rfl
theorem parA (l:List Pn) (q:Nat):parB (pA::l) [lA.name] q=(q==0):=by
 unfold parB
 simp only [List.any_cons,List.any_nil,Bool.or_false,plA]
 cases q<;>rfl
theorem abvA (l:List Pn) (q:Nat):abvB (pA::l) [lA.name] q=false:=by
 unfold abvB
 simp only [List.any_cons,List.any_nil,Bool.or_false,upA]
theorem psA (l:List Pn):psOf (pA::l) [lA.name]=fun q=>q==0:=by
 funext q
 unfold psOf
 rw [parA,abvA]
 cases q with
 |zero=>rfl
 |succ q=>simp
theorem clA (l:List Pn):clash (pA::l) [lA.name]=false:=by
 unfold clash
 rw [List.any_eq_false]
 intro q _
 rw [abvA]
 simp
theorem ltA (l:List Pn):late (pA::l) [lA.name]=0:=by
 unfold late
 simp only [List.foldl_cons,List.foldl_nil,atA]
 rfl
theorem llA (l:List Pn):lvl (pA::l) [lA.name]=2:=by
 unfold lvl
 simp only [List.foldl_cons,List.foldl_nil,lvA]
 rfl
theorem parD (q:Nat):parB [pA,pB,pC] [lB.name,lC.name] q=(q==1||q==2):=by
 unfold parB
 simp only [List.any_cons,List.any_nil,Bool.or_false,plB,plC]
 match q with
 |0=>rfl
 |1=>rfl
 |2=>rfl
 |q+3=>rfl
theorem abvD (q:Nat):abvB [pA,pB,pC] [lB.name,lC.name] q=(q==0):=by
 unfold abvB upB
 simp only [List.any_cons,List.any_nil,Bool.or_false,plB,plC]
 show ((q==0)||(q==0))=_
 simp
theorem psD:psOf [pA,pB,pC] [lB.name,lC.name]=fun q=>decide (q<3):=by
 funext q
 unfold psOf
 rw [parD,abvD]
 match q with
 |0=>rfl
 |1=>rfl
 |2=>rfl
 |q+3=>simp
theorem clD:clash [pA,pB,pC] [lB.name,lC.name]=false:=by
 unfold clash
 rw [List.any_eq_false]
 intro q _
 rw [parD,abvD]
 match q with
 |0=>simp
 |1=>simp
 |2=>simp
 |q+3=>simp
theorem ltD:late [pA,pB,pC] [lB.name,lC.name]=3:=by
 have e1:atOf [pA,pB,pC] lB.name=0:=by unfold atOf;rw [plB];exact pB_at
 have e2:atOf [pA,pB,pC] lC.name=3:=by unfold atOf;rw [plC];exact pC_at
 unfold late
 simp only [List.foldl_cons,List.foldl_nil,e1,e2]
 rfl
theorem llD:lvl [pA,pB,pC] [lB.name,lC.name]=3:=by
 have e1:levOf [pA,pB,pC] lB.name=2:=by unfold levOf;rw [plB];rfl
 have e2:levOf [pA,pB,pC] lC.name=2:=by unfold levOf;rw [plC];rfl
 unfold lvl
 simp only [List.foldl_cons,List.foldl_nil,e1,e2]
 rfl
theorem last1 (p:Nat→Bool) (d:Int) (n:Pn) (l:List Pn):lastTo (n::l) p d 1=if (n.o.by_==d&&p 0)=true then max 0 n.o.sq else 0:=rfl
theorem last2 (p:Nat→Bool) (d:Int) (n m:Pn) (l:List Pn):lastTo (n::m::l) p d 2=if (m.o.by_==d&&p 1)=true then max (lastTo (n::m::l) p d 1) m.o.sq else lastTo (n::m::l) p d 1:=rfl
theorem last3 (p:Nat→Bool) (d:Int) (n m k:Pn) (l:List Pn):lastTo (n::m::k::l) p d 3=if (k.o.by_==d&&p 2)=true then max (lastTo (n::m::k::l) p d 2) k.o.sq else lastTo (n::m::k::l) p d 2:=rfl
theorem ah1 (p:Nat→Bool) (d s:Int) (n:Pn) (l:List Pn):aheadTo (n::l) p d s 1=(false||(n.o.by_==d&&p 0&&n.o.sq==s-1)):=rfl
theorem ah3 (p:Nat→Bool) (d s:Int) (n m k:Pn) (l:List Pn):aheadTo (n::m::k::l) p d s 3=(aheadTo (n::m::k::l) p d s 2||(k.o.by_==d&&p 2&&k.o.sq==s-1)):=rfl
theorem sqbB:seqBad [pA] (fun q=>q==0) lB=false:=by
 unfold seqBad
 rw [show lB.by_=1 from rfl,show lB.sq=2 from rfl,show [pA].length=1 from rfl,last1,ah1,pA_by,pA_sq]
 rfl
theorem sqbC:seqBad [pA,pB] (fun q=>q==0) lC=false:=by
 unfold seqBad
 rw [show lC.by_=2 from rfl,show lC.sq=1 from rfl,show [pA,pB].length=2 from rfl,last2,last1,pA_by,pB_by]
 rfl
theorem sqbD:seqBad [pA,pB,pC] (fun q=>decide (q<3)) lD=false:=by
 unfold seqBad
 rw [show lD.by_=2 from rfl,show lD.sq=2 from rfl,show [pA,pB,pC].length=3 from rfl,last3,last2,last1,ah3,pA_by,pB_by,pC_by,pC_sq]
 simp
 decide
section
variable {cs : List Cd} {c1 c2 : Cd}
theorem addA0 (h1:cardOf? cs 1=some c1) (s1:c1.s=Sg.pub (sec lSign 1)):addErr cs [] (sgn lA)=0:=
 add_ok (c:=c1) lA_chk rfl (by simp) h1 s1 (.inr rfl) rfl (by show clash [] []=false;unfold clash parB;simp) (Int.le_refl _) rfl
theorem addB0 (h1:cardOf? cs 1=some c1) (s1:c1.s=Sg.pub (sec lSign 1)):addErr cs [pA] (sgn lB)=0:=
 add_ok (c:=c1) lB_chk nlB (by simp) h1 s1 (.inl (by show (8:Int)≠1;decide)) (by show [lA.name].any _=false;simp [plA]) (clA []) (by show late [pA] [lA.name]≤0;rw [ltA];exact Int.le_refl _) (by show seqBad [pA] (psOf [pA] [lA.name]) lB=false;rw [psA];exact sqbB)
theorem addC0 (h2:cardOf? cs 2=some c2) (s2:c2.s=Sg.pub (sec lSign 2)):addErr cs [pA,pB] (sgn lC)=0:=
 add_ok (c:=c2) lC_chk nlC (by simp) h2 s2 (.inl (by show (8:Int)≠1;decide)) (by show [lA.name].any _=false;simp [plA]) (clA [pB]) (by show late [pA,pB] [lA.name]≤3;rw [ltA];decide) (by show seqBad [pA,pB] (psOf [pA,pB] [lA.name]) lC=false;rw [psA];exact sqbC)
theorem addD10 (h2:cardOf? cs 2=some c2) (s2:c2.s=Sg.pub (sec lSign 2)):addErr cs [pA,pB] (sgn lD)=10:=
 add_past (c:=c2) lD_chk nlD2 (by simp) h2 s2 (.inl (by show (8:Int)≠1;decide)) (by show [lB.name,lC.name].any _=true;simp [nlC])
theorem addD0 (h2:cardOf? cs 2=some c2) (s2:c2.s=Sg.pub (sec lSign 2)):addErr cs [pA,pB,pC] (sgn lD)=0:=
 add_ok (c:=c2) lD_chk nlD3 (by simp) h2 s2 (.inl (by show (8:Int)≠1;decide)) (by show [lB.name,lC.name].any _=false;simp [plB,plC]) clD (by show late [pA,pB,pC] [lB.name,lC.name]≤3;rw [ltD];exact Int.le_refl _) (by show seqBad [pA,pB,pC] (psOf [pA,pB,pC] [lB.name,lC.name]) lD=false;rw [psD];exact sqbD)
theorem addD5:addErr cs [pA,pB,pC,pD] (sgn lD)=5:=add_twice (by rw [sgn_chk];exact lD_chk) (by rw [sgn_name,plD];rfl)
end
theorem addPn_sgn (l:List Pn) (o:Op):addPn l (sgn o)=⟨sgn o,o.name,psOf l o.past,lvl l o.past⟩:=by
 unfold addPn
 rw [sgn_name,sgn_past]
theorem pnA:addPn [] (sgn lA)=pA:=by
 rw [addPn_sgn]
 have e:psOf [] lA.past=fun _=>false:=by
  funext q
  show psOf [] [] q=false
  unfold psOf abvB parB
  simp
 rw [e]
 rfl
theorem pnB:addPn [pA] (sgn lB)=pB:=by
 have e1:psOf [pA] lB.past=fun q=>q==0:=psA []
 have e2:lvl [pA] lB.past=2:=llA []
 rw [addPn_sgn,e1,e2]
 rfl
theorem pnC:addPn [pA,pB] (sgn lC)=pC:=by
 have e1:psOf [pA,pB] lC.past=fun q=>q==0:=psA [pB]
 have e2:lvl [pA,pB] lC.past=2:=llA [pB]
 rw [addPn_sgn,e1,e2]
 rfl
theorem pnD:addPn [pA,pB,pC] (sgn lD)=pD:=by
 have e1:psOf [pA,pB,pC] lD.past=fun q=>decide (q<3):=psD
 have e2:lvl [pA,pB,pC] lD.past=3:=llD
 rw [addPn_sgn,e1,e2]
 rfl
end Oq
end
end Go.Proofs.YtafonabghnogaaaGreatDoor
