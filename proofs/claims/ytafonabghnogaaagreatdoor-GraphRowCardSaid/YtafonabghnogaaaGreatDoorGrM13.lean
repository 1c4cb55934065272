/-
  Contracts of the functions that the claim's statement reaches, walked one by one (part 13).
  Conditions: as each theorem says.
-/
import Derived.Great.BuildSlice
import Derived.Shelf.SlGeneric
import Derived.Test.YtafonabghnogaaaGreatDoorGrM1
import Derived.Test.YtafonabghnogaaaGreatDoorGrM2
import Derived.Test.YtafonabghnogaaaGreatDoorGrM4
import Derived.Test.YtafonabghnogaaaGreatDoorGrM6
import Derived.Test.YtafonabghnogaaaGreatDoorGrM7
import Derived.Test.YtafonabghnogaaaGreatDoorGrM12
set_option maxRecDepth 100000
set_option maxHeartbeats 16000000
open Bool renaming not_false→Al6,not_true→Al7,not_eq_true→Am6
open Int renaming le_refl→Al9
open List renaming getElem?_eq_getElem→Al1,not_mem_nil→Al3,take_of_length_le→Al4,getElem?_map→Al5,length_map→Al8,length_append→Am3,mem_of_getElem?→Am4,getElem?_of_mem→Am5,take_add_one→Am7
open Nat renaming zero_le→Al2,lt_trans→Am1,le_refl→Am2
open Go.World renaming size_alloc→Am0
namespace Go.Proofs.YtafonabghnogaaaGreatDoor
section
open Go.RowKit
attribute [local go_sem ↓] Go.wp_at_zero Go.wp_at_succ
namespace Oq
attribute [local go_sem] Al6 Al7
theorem Zx {l:List Pn} {p:Nat→Bool} {d:Int} {k:Nat} {n:Pn} (h:l[k]? =some n):Be l p d (k+1)=if (n.o.by_==d&&p k)=true then max (Be l p d k) n.o.sq else Be l p d k:=by
 show (match l[k]? with|some n=>if (n.o.by_==d&&p k)=true then max (Be l p d k) n.o.sq else Be l p d k|none=>Be l p d k)=_
 rw [h]
theorem Q8 {l:List Pn} {p:Nat→Bool} {d s:Int} {k:Nat} {n:Pn} (h:l[k]? =some n):Ca l p d s (k+1)=(Ca l p d s k||(n.o.by_==d&&p k&&n.o.sq==s-1)):=by
 show (match l[k]? with|some n=>Ca l p d s k||(n.o.by_==d&&p k&&n.o.sq==s-1)|none=>Ca l p d s k)=_
 rw [h]
theorem Zy {o:Op} (h:o.chk=0):1≤o.sq∧o.sq≤2147483647:=by
 have h1:=(chk_ok.1 h).2.2.1
 unfold Op.numsB at h1
 simp only [Bool.and_eq_true] at h1
 have h2:=h1.1.1.2
 unfold inR at h2
 simpa using h2
def bsS (t:TypeId) (len:Nat) (parts:Array (Nat × Value)):=Instr.buildSlice t len parts
theorem Zz (n:Nat) (p:Array (Nat × Value)):Instr.buildSlice 121 n p=bsS 121 n p:=rfl
theorem Z0 (N:Ai) (w:World):(bsS 121 1 #[(0,.agg N.cells.toArray)]).run Tryz.prog w=.ok (.slice (some ⟨w.heap.size,0,none⟩) 1 1) (w.alloc (.cells N.cells.toArray 118)):=by
 obtain ⟨ht,hinfo,_⟩:=Q7
 obtain ⟨i,hi,hz,hs,_⟩:=info_parts hinfo
 exact run_buildSlice w 121 118 1 _ _ i _ ht hi hz (by rw [hs];decide) (by rw [hs];decide) (by rw [hs];kernel_rfl)
theorem Z1 {P:Program} {o:Oper} {a:Act} {K:Act→World→Prop} {Q:Exit→Act→World→Prop} {w:World} (s x:Operand) (t:TypeId)
  (ho:o.op=.call {callee:=.builtin .append,args:=#[s,x],argTypes:=#[t,t]})
  {base size n c:Nat} {e:TypeId} {A:Option Addr} {xs:List Value} {z:Value} {bytes m cx B:Nat} {Ax:Option Addr} {news:List Value}
  (hs:a.eval s=.slice A n c) (hx:a.eval x=.slice Ax m cx)
  (hT:SlT P t e z size bytes) (h:Own w base e size A n c xs) (hr:Rd w B size Ax m news)
  (h1:∀u∈news,u.oneCell'=true) (hbytes:(n+m)*bytes≤140737488355328) (hmax:n+m≤9223372036854775807) (hbase:base≤w.heap.size)
  (hk:∀A' c' w',Own w' base e size A' (n+m) c' (xs++news)→Fr (fun k=>Ab A=some k) w w'→(Ab A'=Ab A∨Ab A'=some w.heap.size)→
   K (a.put o.dst (.slice A' (n+m) c')) w'):Oper.wp P o a w K Q:=by
 obtain ⟨A',c',w',hrun,h2,h3,h4⟩:=Gl (P:=P) (ty:=o.type) (cx:=cx) hT h hr h1 hbytes hmax hbase
 unfold Oper.wp execOp
 simp only [ho,resolve,invoke,builtin,Sem.run_bind,Sem.run_pure,Result.andThen_ok,List.map_toArray,List.map_cons,List.map_nil,hs,hx,hrun]
 exact hk A' c' w' h2 h3 h4
attribute [local go_sem ↓] Ij Ik Zz
theorem Z2:addD.1:=by
 conv=>whnf
 intro r5 r7 r8 r9 r10 r14 r19 r20 r21 r22 r23 r24 r25 r26 r27 r28 r29 r30 r31 r32 r33 r34 r35 r36 r37 r38 r39 r40 r41 r42 r43 r44 r45 r46 r47 r48 r49 r50 r51 r52 r53 r54 r55 r56 r57 r58 r59 r60 r61 r62 r63 r64 r65 r66 r67 r68 r69 r70 r71 r72 r152 r153 r154 r155 r156 r157 r158 r159 r160 r161 r162 r163 r164 r165 r166 r167 r168 r169 r170 r171 r172 r173 r174 r175 r176 r177 r178 r179 r180 r181 r182 r183 r184 r185 r186 r187 r188 r189 r190 r191 r192 r193 r194 r195 r196 r197 r198 r199 r200 r201 r202 r203 r204 r205 r206 r207 r208 r209 r210 r211 r212 r213 r214 r215 r216 r217 r218 r219 r220 r221 r222 r223 r224 r225 r226 r227 r228 r229 r230 r231 r232 r233 r15 r16 r84 r85 r86 r87 r88 r89 r90 r91 r92 r93 r94 r95 r96 r97 r98 r99 r100 r101 r102 r103 r104 r105 r106 r107 r108 r109 r110 r111 r112 r113 r114 r115 r116 r117 r118 r119 r120 r121 r122 r123 r124 r125 r18 r128 r129 r130 r131 r132 r133 r134 r135 r136 r137 r138 r139 r140 r141 r142 r143 r144 r145 r146 base g x w y gs m w6 A6 c6 n w7 pb wv a0 a1 a2 a3 lv lt p0 p1 p2 p3 bb w1 wq b0 b1 b2 b3 cl w3 w4 K n0 n1 n2 n3 hK D
 have hg:=D.A.hg
 have hsq:=Zy D.A.chk
 replace hsq:1≤x.sq∧x.sq≤2147483647:=hsq
 have hfew:=D.A.few
 have hD:=Lib.hid D
 have hPs:Hid (∀i,i<256→Ah g.pns x.op.past i=(Ao g.pns x.op.past i||Cb g.pns x.op.past i)):=fun i hi=>by
  unfold Ah
  simp [hi]
 have hpl:Hid (g.pns.length=g.nodes.length):=by show _=_;unfold Gph.pns;rw [Al8]
 obtain ⟨CX,hCX⟩:=Aa x.cells
 have e0:Hid (CX[0]? =some (.int .i64 x.by_)):=by show _=_;rw [← hCX.out];rfl
 have e1:Hid (CX[1]? =some (.int .i64 x.sq)):=by show _=_;rw [← hCX.out];rfl
 have hx:Hid (∀wz,Fr Non w4 wz→wz.cell? ⟨w.heap.size,0,none⟩=some (.int .i64 x.by_)∧wz.cell? ⟨w.heap.size,1,none⟩=some (.int .i64 x.sq)):=fun wz hf=>by
  have h:=D.bx.fr hf zq
  have h0:=h.cell 0
  have h1:=h.cell 1
  rw [hCX.out] at h0 h1
  rw [e0.out] at h0
  rw [e1.out] at h1
  exact ⟨h0,h1⟩
 have hgb:Hid (∀wz,Fr Non w4 wz→wz.cell? ⟨g.gb,2,none⟩=some (.slice g.nA g.nodes.length g.nC)):=fun wz hf=>((hg.fr D.fr).fr hf).blk.cell 2
 rw [hCX.out]
 obtain ⟨nn,hnn⟩:=Aa g.nodes.length
 rw [hnn.out] at hgb hfew hpl
 have c2:=hgb.out w4 (Fr.refl _ _)
 clear D
 go_wp2_with (fail)
 clear c2
 go_loopw [19,20,158] (fun tl ta v wr=>∃(i:Nat) (la:Int) (ah:Bool),tl=.int .i64 la∧ta=.bool ah∧v=.int .i64 (i:Int)∧i≤nn∧Hid (la=Be g.pns (Ah g.pns x.op.past) x.by_ i)∧Hid (ah=Ca g.pns (Ah g.pns x.op.past) x.by_ x.sq i)∧Fr Non w4 wr) (fun _ _ v _=>nn-(intOf v).toNat)
 case atStart=>exact ⟨0,0,false,rfl,rfl,rfl,by omega,rfl,rfl,Fr.refl _ _⟩
 case round=>
  obtain ⟨i,la,ah,rfl,rfl,rfl,hi,hla,hah,hf⟩:=hrel
  by_cases hin:i<nn
  ·
   as_aux_lemma=>
   have i1:(0:Int)≤i:=by omega
   have i2:(i:Int)<nn:=by omega
   have i3:(i:Int).toNat=i:=by omega
   have i4:IntKind.i64.wrap (i:Int)=i:=IntWalk.i64_in _ (by omega)
   obtain ⟨nd,hnd⟩:∃z,g.nodes[i]? =some z:=⟨_,Al1 (by rw [hnn.out];exact hin)⟩
   have hpn:g.pns[i]? =some nd.pn:=by unfold Gph.pns;rw [Al5,hnd];rfl
   obtain ⟨bn,offn,hAn,hbnl,hcell⟩:=hg.cell hnd
   have hl1:=Lib.hid (Zx (p:=Ah g.pns x.op.past) (d:=x.by_) hpn)
   have ha1:=Lib.hid (Q8 (p:=Ah g.pns x.op.past) (d:=x.by_) (s:=x.sq) hpn)
   have hnf:Hid (∀wz,Fr Non w4 wz→wz.cell? ⟨bn,offn+i*35,none⟩=some (.int .i64 nd.x.by_)∧wz.cell? ⟨bn,offn+i*35+1,none⟩=some (.int .i64 nd.x.sq)):=fun wz hf=>by
    have f1:=hD.out.fr.trans hf zr
    exact ⟨f1.cell (hcell 0 (by omega) _ rfl) zq,f1.cell (hcell 1 (by omega) _ rfl) zq⟩
   have kh:=Lib.hid (fun wz (hz:Fr Non w4 wz)=>Jr gs 30 [n0,n1,n2,n3] _ i wz hD.out.set (fun j hj=>by
    rw [(hD.out.bn.fr hz zq).cell]
    match j,hj with
    |0,_=>rfl
    |1,_=>rfl
    |2,_=>rfl
    |3,_=>rfl) (by omega))
   obtain ⟨mi,hmi⟩:=Aa (Ao g.pns x.op.past i||Cb g.pns x.op.past i)
   have hpi:Hid (Ah g.pns x.op.past i=mi):=(hPs.out i (by omega)).trans hmi.out
   rw [hmi.out] at kh
   have c2:=hgb.out wr hf
   rw [hAn] at c2
   obtain ⟨b0',s0'⟩:=hnf.out wr hf
   obtain ⟨x0,x1⟩:=hx.out wr hf
   have hwrap:IntKind.i64.wrap (x.sq-1)=x.sq-1:=IntWalk.i64_in _ (by omega)
   rw [hpi.out] at hl1 ha1
   replace hl1:Hid (Be g.pns (Ah g.pns x.op.past) x.by_ (i+1)=if (nd.x.by_==x.by_&&mi)=true then max (Be g.pns (Ah g.pns x.op.past) x.by_ i) nd.x.sq else Be g.pns (Ah g.pns x.op.past) x.by_ i):=hl1
   replace ha1:Hid (Ca g.pns (Ah g.pns x.op.past) x.by_ x.sq (i+1)=(Ca g.pns (Ah g.pns x.op.past) x.by_ x.sq i||(nd.x.by_==x.by_&&mi&&nd.x.sq==x.sq-1))):=ha1
   clear hpn hnd hcell hAn hPs hmi hpi hgb hg hD
   rcases zb (nd.x.by_==x.by_) with hq|hq
   ·
    rw [hq] at hl1 ha1
    go_upto_region 46 with (fail)
    clear c2
    refine wp_region_held_drew (S:=(fun w'=>w'.cell? ⟨bn,offn+i*35,none⟩=some (.int .i64 nd.x.by_)∧w'.cell? ⟨w.heap.size,0,none⟩=some (.int .i64 x.by_))) (by kernel_rfl) ⟨b0',x0⟩ (fun hHeld=> ?_)
    clear hHeld
    have hS:(fun w'=>w'.cell? ⟨bn,offn+i*35,none⟩=some (.int .i64 nd.x.by_)∧w'.cell? ⟨w.heap.size,0,none⟩=some (.int .i64 x.by_)) wr.drew:=⟨b0',x0⟩
    replace hf:=hf.drew
    refine tkH 0 hS (h:=tkH 1 hS (h:=tkH 2 hS (h:=tkH 3 hS (h:=tkH 4 hS (h:=tkH 5 hS (h:=tkH 6 hS (h:=tkH 7 hS (h:=tkH 8 hS (h:=tkH 9 hS (h:=tkH 10 hS (h:=?_)))))))))))
    simp only [List.set]
    refine oG 11 (fun K hK=> ?_)
    go_simp
    go_wp2_with (go_at_call 73;(with_reducible refine (kh.out _ hf).mono ?_);rintro _ _ ⟨rfl,rfl⟩)
    refine hK.out _ _ hS (fun hZ=> ?_)
    clear hZ hK K kh
    try simp only [Ac,List.set]
    refine tkH 12 hS (h:=?_)
    simp only [List.set]
    refine oD ?_
    go_simp
    obtain ⟨b0',s0'⟩:=hnf.out wr.drew hf
    obtain ⟨x0,x1⟩:=hx.out wr.drew hf
    clear hS hnf b0' x0
    cases mi
    ·
     have hl2:Hid (la=Be g.pns (Ah g.pns x.op.past) x.by_ (i+1)):=by show _=_;rw [hl1.out,← hla.out];rfl
     have ha2:Hid (ah=Ca g.pns (Ah g.pns x.op.past) x.by_ x.sq (i+1)):=by show _=_;rw [ha1.out,← hah.out];simp
     clear hl1 ha1 hla hah s0' x1
     go_wp2_with (fail)
     go_roundw
     case rel=>exact ⟨i+1,la,ah,rfl,rfl,by go_num,by omega,hl2,ha2,hf⟩
     case measure=>simp [intOf];omega
    ·
     have hl2:Hid (max la nd.x.sq=Be g.pns (Ah g.pns x.op.past) x.by_ (i+1)):=by show _=_;rw [hl1.out,← hla.out];rfl
     have ha2:Hid ((ah||nd.x.sq==x.sq-1)=Ca g.pns (Ah g.pns x.op.past) x.by_ x.sq (i+1)):=by show _=_;rw [ha1.out,← hah.out];simp
     clear hl1 ha1 hla hah
     go_upto_region 48 with (fail)
     generalize wr.drew=w5 at*
     cases ah
     case false=>
      refine wp_region_held_drew (S:=(fun w'=>w'.cell? ⟨bn,offn+i*35+1,none⟩=some (.int .i64 nd.x.sq)∧w'.cell? ⟨w.heap.size,1,none⟩=some (.int .i64 x.sq))) (by kernel_rfl) ⟨s0',x1⟩ (fun hHeld=> ?_)
      clear hHeld
      have hS:(fun w'=>w'.cell? ⟨bn,offn+i*35+1,none⟩=some (.int .i64 nd.x.sq)∧w'.cell? ⟨w.heap.size,1,none⟩=some (.int .i64 x.sq)) w5.drew:=⟨s0',x1⟩
      replace hf:=hf.drew
      refine tkH 0 hS (h:=tkH 1 hS (h:=tkH 2 hS (h:=tkH 3 hS (h:=tkH 4 hS (h:=tkH 5 hS (h:=tkH 6 hS (h:=tkH 7 hS (h:=tkH 8 hS (h:=tkH 9 hS (h:=tkH 10 hS (h:=tkH 11 hS (h:=?_))))))))))))
      simp only [List.set]
      refine tkH 12 hS (h:=?_)
      simp only [List.set]
      refine oD ?_
      go_simp
      go_wp2_with (fail)
      go_roundw
      case rel=>exact ⟨i+1,max la nd.x.sq,_,rfl,rfl,by go_num,by omega,hl2,ha2,hf⟩
      case measure=>simp [intOf];omega
     case true=>
      refine wp_region_held_drew (S:=(fun w'=>w'.cell? ⟨bn,offn+i*35+1,none⟩=some (.int .i64 nd.x.sq)∧w'.cell? ⟨w.heap.size,1,none⟩=some (.int .i64 x.sq))) (by kernel_rfl) ⟨s0',x1⟩ (fun hHeld=> ?_)
      clear hHeld
      have hS:(fun w'=>w'.cell? ⟨bn,offn+i*35+1,none⟩=some (.int .i64 nd.x.sq)∧w'.cell? ⟨w.heap.size,1,none⟩=some (.int .i64 x.sq)) w5.drew:=⟨s0',x1⟩
      replace hf:=hf.drew
      refine tkH 0 hS (h:=tkH 1 hS (h:=skH 2 hS (h:=skH 3 hS (h:=skH 4 hS (h:=skH 5 hS (h:=skH 6 hS (h:=skH 7 hS (h:=skH 8 hS (h:=skH 9 hS (h:=skH 10 hS (h:=tkH 11 hS (h:=?_))))))))))))
      simp only [List.set]
      refine tkH 12 hS (h:=?_)
      simp only [List.set]
      refine oD ?_
      go_simp
      go_wp2_with (fail)
      go_roundw
      case rel=>exact ⟨i+1,max la nd.x.sq,_,rfl,rfl,by go_num,by omega,hl2,ha2,hf⟩
      case measure=>simp [intOf];omega
   ·
    rw [hq] at hl1 ha1
    have hl2:Hid (la=Be g.pns (Ah g.pns x.op.past) x.by_ (i+1)):=by show _=_;rw [hl1.out,← hla.out];rfl
    have ha2:Hid (ah=Ca g.pns (Ah g.pns x.op.past) x.by_ x.sq (i+1)):=by show _=_;rw [ha1.out,← hah.out];simp
    clear hl1 ha1 hla hah
    go_upto_region 46 with (fail)
    clear c2
    refine wp_region_held_drew (S:=(fun w'=>w'.cell? ⟨bn,offn+i*35,none⟩=some (.int .i64 nd.x.by_)∧w'.cell? ⟨w.heap.size,0,none⟩=some (.int .i64 x.by_))) (by kernel_rfl) ⟨b0',x0⟩ (fun hHeld=> ?_)
    clear hHeld
    have hS:(fun w'=>w'.cell? ⟨bn,offn+i*35,none⟩=some (.int .i64 nd.x.by_)∧w'.cell? ⟨w.heap.size,0,none⟩=some (.int .i64 x.by_)) wr.drew:=⟨b0',x0⟩
    replace hf:=hf.drew
    refine tkH 0 hS (h:=tkH 1 hS (h:=tkH 2 hS (h:=tkH 3 hS (h:=tkH 4 hS (h:=tkH 5 hS (h:=tkH 6 hS (h:=tkH 7 hS (h:=tkH 8 hS (h:=skH 9 hS (h:=skH 10 hS (h:=skH 11 hS (h:=?_))))))))))))
    simp only [List.set]
    refine tkH 12 hS (h:=?_)
    simp only [List.set]
    refine oD ?_
    go_simp
    clear hS
    go_wp2_with (fail)
    go_roundw
    case rel=>exact ⟨i+1,la,ah,rfl,rfl,by go_num,by omega,hl2,ha2,hf⟩
    case measure=>simp [intOf];omega
  ·
   obtain rfl:nn=i:=by omega
   have hbad:Hid (Az g.pns (Ah g.pns x.op.past) x.op=(decide (x.sq≤la)||(decide (1<x.sq)&& !ah))):=by
    show _=_
    unfold Az
    rw [hpl.out]
    rw [show x.op.by_=x.by_ from rfl,show x.op.sq=x.sq from rfl,← hla.out,← hah.out]
   obtain ⟨x0,x1⟩:=hx.out wr hf
   obtain ⟨bad,hbv⟩:=Aa (decide (x.sq≤la)||(decide (1<x.sq)&& !ah))
   clear hla hah hi hin hx hgb hpl hPs x0
   go_upto_region 50 with (fail)
   go_cut [212] from 200 to 212 (fun s wc=>wr=wc∧s=.bool bad)
   case first=>
    clear hD hbad hg
    as_aux_lemma=>
    rcases zb (decide (x.sq≤la)) with t1|t1
    ·
     have hv:Hid (true=bad):=by show _=_;rw [← hbv.out,t1];rfl
     go_wp2_with (fail)
     go_meet
     exact ⟨rfl,congrArg Value.bool hv.out⟩
    ·
     rcases zb (decide (1<x.sq)) with t2|t2
     ·
      have hv:Hid ((!ah)=bad):=by show _=_;rw [← hbv.out,t1,t2];rfl
      go_wp2_with (fail)
      go_meet
      exact ⟨rfl,congrArg Value.bool hv.out⟩
     ·
      have hv:Hid (false=bad):=by show _=_;rw [← hbv.out,t1,t2];rfl
      go_wp2_with (fail)
      go_meet
      exact ⟨rfl,congrArg Value.bool hv.out⟩
   case rest=>
   obtain ⟨rfl,rfl⟩:=hcut
   clear x1
   rw [hbv.out] at hbad
   cases bad
   case true=>
    have fin:=Lib.hid (AddPost.bad (base:=base) (w':=wr) (by rw [hD.out.err,if_pos hbad.out]) (by decide) (hD.out.fr.trans hf zr))
    clear hD hbad hbv hg hf
    as_aux_lemma=>
    go_wp2_with (fail)
    go_ret
    exact fin.out
   case false=>
    have herr:Aj g.cards g.pns x.op=0:=by rw [hD.out.err,hbad.out];rfl
    have D:=hD.out
    obtain ⟨nid,hnid⟩:=Aa x.op.name
    have hnok:nid.ok:=by rw [← hnid.out];exact Eb D.A.hok
    have frr:Fr Non w wr:=D.fr.trans hf zr
    have hgr:=hg.fr frr
    have bnr:=D.bn.fr hf zq
    rw [hnid.out] at bnr
    have s27:wr.cell? ⟨gs,27,none⟩=some (.int .i64 nid.b):=bnr.cell 27
    have s28:wr.cell? ⟨gs,28,none⟩=some (.int .i64 nid.s):=bnr.cell 28
    have s29:wr.cell? ⟨gs,29,none⟩=some (.int .u64 (nid.u:Int)):=bnr.cell 29
    have c1:wr.cell? ⟨g.gb,1,none⟩=some (.map (some g.mb)):=hgr.blk.cell 1
    have c2:wr.cell? ⟨g.gb,2,none⟩=some (.slice g.nA nn g.nC):=by rw [← hnn.out];exact hgr.blk.cell 2
    obtain ⟨w5,hrun,hm5,hg5⟩:=MapAt.store (hgr.map.fr ((Fr.refl Non wr).drew) zq) nid hnok nn (by omega) (by have:=hg.mfew;have:=hg.few;omega)
    have f5:Fr (One g.mb) wr.drew w5:=(Fr.refl (One g.mb) wr.drew).grown hg5 (fun k hk _=>by injection hk with hk;exact hk.symm)
    have hrun':(Instr.mapUpdate 120 (.map (some g.mb)) (.agg nid.V) (.int .i64 (nn:Int))).run Tryz.prog wr.drew=.ok () w5:=hrun
    clear hrun hg5 hbad hbv
    go_upto_region 52 with (fail)
    refine C4 (S:=(fun w'=>w'.cell? ⟨gs,27,none⟩=some (.int .i64 nid.b)∧w'.cell? ⟨gs,28,none⟩=some (.int .i64 nid.s)∧w'.cell? ⟨gs,29,none⟩=some (.int .u64 (nid.u:Int))∧w'.cell? ⟨g.gb,1,none⟩=some (.map (some g.mb))∧w'.cell? ⟨g.gb,2,none⟩=some (.slice g.nA nn g.nC))) 11 (by kernel_rfl) ?_
    have hS:(fun w'=>w'.cell? ⟨gs,27,none⟩=some (.int .i64 nid.b)∧w'.cell? ⟨gs,28,none⟩=some (.int .i64 nid.s)∧w'.cell? ⟨gs,29,none⟩=some (.int .u64 (nid.u:Int))∧w'.cell? ⟨g.gb,1,none⟩=some (.map (some g.mb))∧w'.cell? ⟨g.gb,2,none⟩=some (.slice g.nA nn g.nC)) wr.drew:=⟨s27,s28,s29,c1,c2⟩
    obtain ⟨wd,hwd⟩:=Aa wr.drew
    have fd:Fr Non w4 wd:=by rw [← hwd.out];exact hf.drew
    rw [hwd.out] at hS f5 hrun' ⊢
    refine tkG 0 hS (h:=tkG 1 hS (h:=tkG 2 hS (h:=tkG 3 hS (h:=tkG 4 hS (h:=tkG 5 hS (h:=tkG 6 hS (h:=tkG 7 hS (h:=tkG 8 hS (h:=tkG 9 hS (h:=tkG 10 hS (h:=?_)))))))))))
    simp only [List.set]
    refine Cv (by kernel_rfl) ?_
    refine oG 11 (fun K hK=> ?_)
    go_simp
    refine hK.out _ _ trivial (fun hZ=> ?_)
    clear hZ hK K
    try simp only [put_lit2,List.set]
    refine oD ?_
    go_simp
    clear hS hrun' s27 s28 s29 c1 c2 hgr bnr
    have frd:Fr Non w wd:=D.fr.trans fd zr
    have hgd:=hg.fr frd
    have hmbl:g.mb<w.heap.size:=hg.map.lt
    have hgsl:=D.lo1
    have hgbmb:g.gb≠g.mb:=fun e=>by
     have h1:=hg.blk
     unfold Blk at h1
     rw [e] at h1
     exact hg.map.ismap _ _ _ h1
    have hrmb:¬Ab g.nA=some g.mb:=fun e=>by
     obtain ⟨cs,fr,hb⟩:=hg.own.block e
     exact hg.map.ismap _ _ _ hb
    have hrgb:¬Ab g.nA=some g.gb:=hg.own.ne hg.blk (by decide)
    have hrgs:¬Ab g.nA=some gs:=fun e=>by have:=(hg.own.row _ e).2;omega
    have b5:=hgd.blk.fr f5 (fun e=>hgbmb e)
    have bn5:Blk w5 gs 118 (⟨y,nid,n0,n1,n2,n3,lv⟩:Ai).cells.toArray:=by
     have h1:=(D.bn.fr fd zq).fr f5 (fun e=>by have e':gs=g.mb:=e;omega)
     rw [hnid.out] at h1
     exact h1
    have own5:Own w5 base 118 35 g.nA nn g.nC (g.nodes.flatMap Ai.cells):=by
     rw [← hnn.out]
     exact hgd.own.fr f5 (fun k hk e=>by have e':k=g.mb:=e;subst e';exact hrmb hk)
    have c5:w5.cell? ⟨g.gb,2,none⟩=some (.slice g.nA nn g.nC):=by rw [← hnn.out];exact b5.cell 2
    have hin35:(Tryz.prog.info? 118).map (·.size)=some (⟨y,nid,n0,n1,n2,n3,lv⟩:Ai).cells.toArray.size:=by
     show _=some 35
     kernel_rfl
    have hlm:=Bd (P:=Tryz.prog) gs 118 Tryz.underlying118 rfl (cs:=(⟨y,nid,n0,n1,n2,n3,lv⟩:Ai).cells.toArray) hin35
    have hbs:=Z0 ⟨y,nid,n0,n1,n2,n3,lv⟩
    have hone:=Gy ⟨y,nid,n0,n1,n2,n3,lv⟩
    have hszN:(⟨y,nid,n0,n1,n2,n3,lv⟩:Ai).cells.length=35:=rfl
    have hfin:=Lib.hid (fun (A':Option Addr) (c':Nat) (w6 w7:World)=>Zw (w4:=w4) (wd:=wd) (w5:=w5) (w6:=w6) (w7:=w7) (A':=A') (c':=c') hg D herr fd)
    have hbase:base≤w.heap.size:=Nat.le_trans hg.gbase (Nat.le_of_lt hg.blk.lt)
    have h5s:=f5.size
    have h4s:=frd.size
    rw [hnid.out,hnn.out] at hfin
    clear hgd D herr hD hf
    go_upto_region 53 with (fail)
    refine C4 (S:=(fun w'=>w'.cell? ⟨g.gb,2,none⟩=some (.slice g.nA nn g.nC)∧Blk w' gs 118 (⟨y,nid,n0,n1,n2,n3,lv⟩:Ai).cells.toArray)) 10 (by kernel_rfl) ?_
    have hS:(fun w'=>w'.cell? ⟨g.gb,2,none⟩=some (.slice g.nA nn g.nC)∧Blk w' gs 118 (⟨y,nid,n0,n1,n2,n3,lv⟩:Ai).cells.toArray) w5.drew:=⟨c5,bn5⟩
    obtain ⟨we,hwe⟩:=Aa w5.drew
    have fe:Fr Non w5 we:=by rw [← hwe.out];exact (Fr.refl Non w5).drew
    have owne:=own5.fr fe zr
    have be:=b5.fr fe zq
    have hes:=fe.size
    rw [hwe.out] at hS ⊢
    refine tkG 0 hS (h:=tkG 1 hS (h:=tkG 2 hS (h:=tkG 3 hS (h:=tkG 4 hS (h:=tkG 5 hS (h:=?_))))))
    simp only [List.set]
    refine Bl 6 (by kernel_rfl) rfl (fun K hK=> ?_)
    go_simp
    have fa:Fr Non we (we.alloc (.cells (⟨y,nid,n0,n1,n2,n3,lv⟩:Ai).cells.toArray 118)):=(Fr.refl Non we).alloc _
    have hS6:(fun w'=>w'.cell? ⟨g.gb,2,none⟩=some (.slice g.nA nn g.nC)∧Blk w' gs 118 (⟨y,nid,n0,n1,n2,n3,lv⟩:Ai).cells.toArray) (we.alloc (.cells (⟨y,nid,n0,n1,n2,n3,lv⟩:Ai).cells.toArray 118)):=⟨fa.cell hS.1 zq,hS.2.fr fa zq⟩
    have own6:=owne.fr fa zr
    have hrd6:=Rd.blk (n:=1) (size:=35) (l:=(⟨y,nid,n0,n1,n2,n3,lv⟩:Ai).cells) (Blk.new we 118 (⟨y,nid,n0,n1,n2,n3,lv⟩:Ai).cells.toArray) (by rw [hszN])
    have b6:=be.fr fa zq
    have f6:=fe.trans fa zr
    refine hK.out _ _ hS6 (fun hZ=> ?_)
    clear hZ hK K
    try simp only [Ac,List.set]
    generalize we.alloc (.cells (⟨y,nid,n0,n1,n2,n3,lv⟩:Ai).cells.toArray 118)=w6 at*
    refine Bl 7 (by kernel_rfl) rfl (fun K hK=> ?_)
    refine Z1 (base:=base) (.tmp 228) (.tmp 230) 121 (by rfl) (by rfl) (by rfl) Q7 own6 hrd6 (by intro u hu;exact (Array.all_eq_true'.1 hone) u (by simpa using hu)) (by omega) (by omega) (by have:=f6.size;omega) ?_
    intro A' c' w7 own7 f7 hat
    have hS7:(fun w'=>w'.cell? ⟨g.gb,2,none⟩=some (.slice g.nA nn g.nC)∧Blk w' gs 118 (⟨y,nid,n0,n1,n2,n3,lv⟩:Ai).cells.toArray) w7:=⟨f7.cell hS6.1 hrgb,hS6.2.fr f7 hrgs⟩
    have b7:=b6.fr f7 hrgb
    refine hK.out _ _ hS7 (fun hZ=> ?_)
    clear hZ hK K
    try simp only [Ac,List.set]
    refine Bl 8 (by kernel_rfl) rfl (fun K hK=> ?_)
    go_simp
    refine hK.out _ _ hS7 (fun hZ=> ?_)
    clear hZ hK K
    try simp only [Ac,List.set]
    refine tkG 9 hS7 (h:=?_)
    simp only [List.set]
    have fin:=Lib.hid (hfin.out A' c' w6 w7 hm5 f5 f6 own7 f7 hat)
    have c7:w7.cell? ⟨g.gb,2,none⟩=some (.slice g.nA nn g.nC):=hS7.1
    have z7:w7.frozen? ⟨g.gb,2,none⟩=false:=b7.frozen 2
    refine Cv (by kernel_rfl) ?_
    refine oG 10 (fun K hK=> ?_)
    go_simp
    refine hK.out _ _ trivial (fun hZ=> ?_)
    clear hZ hK K
    try simp only [put_lit2,List.set]
    refine oD ?_
    go_simp
    clear hS hS6 hS7 own7 f7 hat b7 c7 z7 hfin hm5 f5 f6 own6 hrd6 b6 be owne fe hes hlm hbs hone
    go_wp2_with (fail)
    go_ret
    exact fin.out
theorem Hv (base:Nat) (g:Gph) (x:OpL) (w:World) (hg:GAt w base g) (hat:x.at w w.heap.size) (hok:x.op.ok) (hkn:KindsAt w):
  Calls Tryz.prog 17 #[.pointer (some ⟨g.gb,0,none⟩),.agg x.cells] w (AddPost base g x.op w):=
 addA.2 ⟨addB.2 ⟨addC.2 ⟨addD.2 ⟨Z2⟩⟩⟩⟩ base g x w hg hat hok hkn
end Oq
end
section
open Go.RowKit
namespace Oq
def sgn (o:Op):Op:={o with r:=Sg.r (sec Bc o.by_.toNat) o.bare,s:=Sg.s (sec Bc o.by_.toNat) o.bare}
theorem Lg (o:Op) (R S:Nat):({o with r:=R,s:=S}:Op).chk=o.chk:=rfl
theorem Lh (o:Op) (R S:Nat):({o with r:=R,s:=S}:Op).bare=o.bare:=rfl
theorem Z3 (o:Op) (R S:Nat):({o with r:=R,s:=S}:Op).id=o.id:=by unfold Op.id;rw [Lh]
theorem Li (o:Op) (R S:Nat):({o with r:=R,s:=S}:Op).name=o.name:=by
 unfold Op.name
 rw [Z3]
theorem Z4 (l:List Pn) (p:Nat→Bool) (o:Op) (R S:Nat):Az l p ({o with r:=R,s:=S}:Op)=Az l p o:=rfl
theorem E2 (o:Op):∃R S,sgn o={o with r:=R,s:=S}∧Sg.check (Sg.pub (sec Bc o.by_.toNat)) o.bare R S=true:=
 ⟨_,_,rfl,Sg.takes _ _ (Am1 (Gu _ _) (by decide))⟩
theorem Gb (o:Op):(sgn o).name=o.name:=by
 obtain ⟨R,S,h,_⟩:=E2 o
 rw [h,Li]
theorem Z5 (o:Op):(sgn o).chk=o.chk:=by
 obtain ⟨R,S,h,_⟩:=E2 o
 rw [h,Lg]
theorem Lj (o:Op):(sgn o).by_=o.by_:=by
 obtain ⟨R,S,h,_⟩:=E2 o
 rw [h]
theorem Q9 (o:Op):(sgn o).sq=o.sq:=by
 obtain ⟨R,S,h,_⟩:=E2 o
 rw [h]
theorem Lk (o:Op):(sgn o).at_=o.at_:=by
 obtain ⟨R,S,h,_⟩:=E2 o
 rw [h]
theorem Z6 (o:Op):(sgn o).past=o.past:=by
 obtain ⟨R,S,h,_⟩:=E2 o
 rw [h]
theorem Ha {cards:List Cd} {l:List Pn} {o:Op} {c:Cd} (h1:o.chk=0) (h2:plc l o.name=none) (h3:l.length<200) (h4:Bk cards o.by_=some c) (h5:c.s=Sg.pub (sec Bc o.by_.toNat)) (h6:o.kind≠1∨l=[])
  (h7:o.past.any (fun id=>(plc l id).isNone)=false) (h8:clash l o.past=false) (h9:late l o.past≤o.at_) (h10:Az l (Ah l o.past) o=false):Aj cards l (sgn o)=0:=by
 obtain ⟨R,S,e,hc⟩:=E2 o
 rw [e]
 unfold Aj
 rw [Lg,Li,h1,h2,if_neg (by simp),if_neg (by simp),if_neg (by omega)]
 rw [show ({o with r:=R,s:=S}:Op).by_=o.by_ from rfl,h4]
 dsimp only
 rw [Lh,h5,hc,if_neg (by simp),if_neg (by rcases h6 with h|h<;>simp [h]),h7,if_neg (by simp),h8,if_neg (by simp;omega),Z4,h10]
 simp
theorem Z7 {cards:List Cd} {l:List Pn} {o:Op} {c:Cd} (h1:o.chk=0) (h2:plc l o.name=none) (h3:l.length<200) (h4:Bk cards o.by_=some c) (h5:c.s=Sg.pub (sec Bc o.by_.toNat)) (h6:o.kind≠1∨l=[])
  (h7:o.past.any (fun id=>(plc l id).isNone)=true):Aj cards l (sgn o)=10:=by
 obtain ⟨R,S,e,hc⟩:=E2 o
 rw [e]
 unfold Aj
 rw [Lg,Li,h1,h2,if_neg (by simp),if_neg (by simp),if_neg (by omega)]
 rw [show ({o with r:=R,s:=S}:Op).by_=o.by_ from rfl,h4]
 dsimp only
 rw [Lh,h5,hc,if_neg (by simp),if_neg (by rcases h6 with h|h<;>simp [h]),h7,if_pos rfl]
theorem Z8 {cards:List Cd} {l:List Pn} {o:Op} (h1:o.chk=0) (h2:(plc l o.name).isSome=true):Aj cards l o=5:=by
 unfold Aj
 rw [h1,if_neg (by simp),if_pos h2]
def Dw (b s a:Int) (past:List Id):Op:={base b s 8 a past [] with of:=⟨1,1,0⟩}
def Hb (b:Int):Op:={base b 1 1 0 [] [] with need:=0}
theorem Ll {b s a:Int} {past:List Id} (hb:1≤b∧b≤12) (hs:1≤s∧s≤2147483647) (ha:0≤a∧a≤2147483647) (hp:past.length≤12∧(∀x∈past,x.named=true)∧Row past∧past≠[]):(Dw b s a past).chk=0:=
 Um (h:=⟨by omega,hb,hs,ha,⟨hp.1,hp.2.1,hp.2.2.1,by simp [hp.2.2.2]⟩,⟨by simp,by simp,.inl rfl⟩⟩) (Ny (x:=⟨1,1,0⟩) ⟨by decide,by decide⟩ ⟨by decide,by decide⟩ (by unfold FP;decide))
theorem Z9 {b:Int} (hb:1≤b∧b≤12):(Hb b).chk=0:=
 N1 (h:=⟨by omega,hb,by omega,by omega,⟨by simp,by simp,List.Pairwise.nil,by simp⟩,⟨by simp,by simp,.inl rfl⟩⟩) (Eo (by omega))
theorem id_lt (o:Op):o.id<FP:=by unfold FP;exact Hs.of_lt _ _
theorem Aa0 {b s:Int} {u:Nat} (hb:1≤b∧b≤12) (hs:1≤s∧s≤2147483647) (hu:u<FP):(Id.mk b s u).named=true:=Ny hb hs hu
theorem Lm {o:Op} (hb:1≤o.by_∧o.by_≤12) (hs:1≤o.sq∧o.sq≤2147483647):o.name.named=true:=by
 unfold Op.name
 exact Aa0 hb hs (id_lt o)
end Oq
end
section
open Go.RowKit
attribute [local go_sem ↓] Go.wp_at_zero Go.wp_at_succ
namespace Oq
attribute [local go_sem ↓] Ci Ef
def Ln (b s a:Int) (l:List Id) (w:World) (e:Ending) (w':World):Prop:=∃y:OpL,e=.returned (.agg y.cells)∧y.op=sgn (Dw b s a (Am l))∧y.own w' w.heap.size∧Fr Non w w'
def erL (b s a:Int) (A:Option Addr) (c:Nat) (l:List Id):OpL:={OpL.zero with by_:=b,sq:=s,kind:=8,at_:=a,pastA:=A,pastC:=c,past:=l,of:=⟨1,1,0⟩}
theorem Ra (b s a:Int) (A:Option Addr) (c:Nat) (l:List Id):(erL b s a A c l).op=Dw b s a l:=rfl
theorem Lo (x:OpL) (o:Op) (h:x.op=o) (u:Nat) (hu:o.by_.toNat=u) (S:Nat) (hS:sec Bc u=S):({x with r:=Sg.r S x.op.bare,s:=Sg.s S x.op.bare}:OpL).op=sgn o:=by
 rw [Vy,h]
 unfold sgn
 rw [hu,hS]
theorem Cm:I64 0:=⟨by decide,by decide⟩
theorem I64_8:I64 8:=⟨by decide,by decide⟩
theorem I0:I64 1:=⟨by decide,by decide⟩
theorem I1 {b s a : Int} {L : List Id} (hb : 1 ≤ b ∧ b ≤ 12) (hs : 1 ≤ s ∧ s ≤ 2147483647) (ha : 0 ≤ a ∧ a ≤ 2147483647) (hl : L.length ≤ 1000 ∧ ∀ x ∈ L, x.ok) : (Dw b s a L).ok :=
  ⟨⟨by show _ ≤ b; omega, by show b ≤ _; omega⟩, ⟨by show _ ≤ s; omega, by show s ≤ _; omega⟩, I64_8, ⟨by show _ ≤ a; omega, by show a ≤ _; omega⟩, hl, Cm, Cm, Cm, Cm,
   ⟨Al2 _, fun _ h => absurd h Al3⟩, ⟨Cm, Cm, Eg⟩, Cm, Al2 _, ⟨Al2 _, fun _ h => absurd h Al3⟩, ⟨I0, I0, Eg⟩,
   ⟨Al2 _, fun _ h => absurd h Al3⟩, Cm, Cm, ⟨Al2 _, fun _ h => absurd h Al3⟩, Eg, ⟨Al2 _, fun _ h => absurd h Al3⟩, Eg, Eg⟩
theorem Rb {b s a:Int} {A:Option Addr} {c:Nat} {l:List Id} {w:World} {base:Nat} (h:Own w base 38 3 A l.length c (l.flatMap Id.cells)):(erL b s a A c l).own w base:=
 ⟨RowAt.of_own h,RowAt.nil _ _ _ _,(fun _ h=>absurd h Al3),RowAt.nil _ _ _ _,RowAt.nil _ _ _ _,RowAt.nil _ _ _ _,RowAt.nil _ _ _ _,RowAt.nil _ _ _ _,(fun _ h=>absurd h Al3)⟩
theorem Lp {x:OpL} {w:World} {base:Nat} (o:x.own w base) (r s:Nat):({x with r:=r,s:=s}:OpL).own w base:=⟨o.past,o.path,o.nodes,o.body,o.refs,o.guards,o.boxes,o.hist,o.seals⟩
theorem Lq (b s a:Int) (B n c:Nat) (A:Option Addr) (l:List Id) (w:World) (hb:1≤b∧b≤12) (hs:1≤s∧s≤2147483647) (ha:0≤a∧a≤2147483647) (hn:Hid (l.length=n)) (hr:Rd w B 3 A n (l.flatMap Id.cells)) (hnm:n≤1000) (hok:∀x∈l,x.ok):
  Calls Tryz.prog 41 #[.int .i64 b,.int .i64 s,.int .i64 a,.slice A n c] w (Ln b s a l w):=by
 have hi:(Tryz.prog.info? 44).map (·.size)=some 27:=by kernel_rfl
 have hlS:(Am l).length=n:=(Da l).length_eq.trans hn.out
 have hox:(Dw b s a (Am l)).ok:=I1 hb hs ha ⟨by omega,fun x hx=>hok x ((Da l).subset hx)⟩
 have f0:Fr Non w (w.alloc (.cells zO 44)):=(Fr.refl Non w).alloc _
 have bz0:=Blk.new w 44 zO
 have kS:=Lib.hid (fun w' (h:Fr Non w w')=>Gq B n c A l w' hn (hr.fr h zr) (by omega))
 obtain ⟨u,hu⟩:∃u,b.toNat=u:=⟨_,rfl⟩
 have hu2:IntKind.u64.wrap b=(u:Int):=by rw [IntKind.wrap_u64];omega
 have kG:Hid (∀(A1:Option Addr) (c1:Nat) (w':World) (base:Nat),Own w' base 38 3 A1 n c1 ((Am l).flatMap Id.cells)→Calls Tryz.prog 15 #[.agg #[.int .i64 b,.int .i64 s,.int .i64 8,.int .i64 a,.slice A1 n c1,.int .i64 0,.int .i64 0,.int .i64 0,.int .i64 0,.slice none 0 0,.int .i64 0,.int .i64 0,.int .u64 0,.int .i64 0,.slice none 0 0,.slice none 0 0,.int .i64 1,.int .i64 1,.int .u64 0,.slice none 0 0,.int .i64 0,.int .i64 0,.slice none 0 0,.int .u64 0,.slice none 0 0,.int .u64 0,.int .u64 0]] w' fun r w''=>
   ∃y:OpL,r=.returned (.agg y.cells)∧y.op=sgn (Dw b s a (Am l))∧(∀(S:Nat→Prop) (wz:World),Fr S w' wz→(∀k,Ab A1=some k→¬S k)→y.own wz base)∧Fr Non w' w''):=by
  intro A1 c1 w' base ho
  rw [← hlS] at ho ⊢
  have hat:=(Rb (b:=b) (s:=s) (a:=a) ho).at
  have h:=Kj (erL b s a A1 c1 (Am l)) u w' hu2 (by omega) hat (by rw [Ra];exact hox)
  refine Calls.mono h ?_
  rintro r w'' ⟨h1,h2⟩
  exact ⟨_,h1,Lo _ _ (Ra b s a A1 c1 (Am l)) u hu _ rfl,(fun S wz hf hs=>Lp (Rb (ho.fr hf hs)) _ _),h2⟩
 have hpost:Hid (∀(y:OpL) w',y.op=sgn (Dw b s a (Am l))→y.own w' w.heap.size→Fr Non w w'→Ln b s a l w (.returned (.agg y.cells)) w'):=fun y w' h1 h2 h3=>⟨y,rfl,h1,h2,h3⟩
 unfold En at kS
 generalize Ln b s a l w=POST at*
 generalize sgn (Dw b s a (Am l))=OO at*
 generalize (Am l).flatMap Id.cells=SC at*
 clear hox hlS hn hr hok hu2 hu
 go_enter Tryz.func41,Tryz.ntmps41
 go_upto_region 1 with (fail)
 generalize w.alloc (.cells zO 44)=w0 at*
 have f0s:=f0.size
 go_wp2_with (first
  |(go_at_call 50;(with_reducible refine (kS.out _ f0).mono ?_);rintro _ w1 ⟨A1,c1,rfl,o1,f1⟩;have kg:=Lib.hid (kG.out A1 c1 w1 _ o1);have bz1:=bz0.fr f1 zq;have fr1:=f0.trans f1 zr;have hrow:=o1.row;have hbl:=bz0.lt;clear kS kG o1 f1)
  |(go_at_call 15;(with_reducible refine (kg.out).mono ?_);rintro _ w2 ⟨y,rfl,hop,hyat,f2⟩;have bz2:=bz1.fr f2 zq;have fr2:=fr1.trans f2 zr;have honey:=Cr y;have fin:Hid (∀wz,Fr (One w.heap.size) w2 wz→POST (.returned (.agg y.cells)) wz):=(fun wz hz=>by
    have hz':Fr Non w wz:=fr2.trans hz (fun k hk e=>absurd hk (by have e':k=w.heap.size:=e;omega))
    have hsz:w.heap.size≤w0.heap.size:=f0s
    exact hpost.out y wz hop ((hyat (One w.heap.size) wz ((Fr.of_non f2 (One w.heap.size)).trans hz zr) (fun k hk e=>by have h1:=(hrow k hk).1;have e':k=w.heap.size:=e;omega)).lower hsz) hz');clear kg f2)
  |(refine Fc rfl 44 (.tmp 8) (.tmp 16) rfl rfl rfl rfl bz2 hi rfl honey ?_;have hfz:=(Fr.refl (One w.heap.size) w2).setRow (g:=w.heap.size) (fun _=>rfl) y.cells;have hz2:=bz2.setRow (cs:=y.cells);generalize w2.setRow w.heap.size y.cells=wz at hfz hz2 ⊢;(repeat (first|go_values|go_skip|go_guarded|go_step));exact Dq (t:=44) rfl rfl hz2 rfl Tryz.underlying44 (by kernel_rfl) rfl (fin.out wz hfz)))
end Oq
end
section
open Go.RowKit Go.Sort Go.Shelf
namespace Oq
section
variable {α : Type} [Inhabited α] {enc : α → List Value} {sz : Nat} (hlen : ∀ x, (enc x).length = sz) (hsz : 0 < sz)
include hlen hsz
theorem Rc (xs:List α) {j:Nat} (hj:j<xs.length*sz):(xs.flatMap enc)[j]? =some ((flatK enc sz xs.toArray)[j]!):=by
 rw [get_flatK _ _ _ _ (by simpa using hj)]
 have hk:j/sz<xs.length:=Nat.div_lt_of_lt_mul (by rwa [Nat.mul_comm] at hj)
 have hm:j%sz<sz:=Nat.mod_lt _ hsz
 have h1:xs[j/sz]? =some xs[j/sz]:=Al1 hk
 have h2:=Fa (f:=enc) (size:=sz) hlen xs (j/sz) (j%sz) _ h1 hm
 rw [Nat.mul_comm,Nat.div_add_mod] at h2
 rw [h2]
 have h3:xs.toArray[j/sz]! =xs[j/sz]:=by simp [hk]
 rw [h3]
 have h4:j%sz<(enc xs[j/sz]).length:=by rw [hlen];exact hm
 rw [Al1 h4]
 simp [h4]
theorem Aa1 {w:World} {base c:Nat} {t:TypeId} {g:Nat} {xs:List α} (h:Own w base t sz (some ⟨g,0,none⟩) xs.length c (xs.flatMap enc)):HoldsK enc sz w g 0 xs.toArray:=by
 intro j hj
 have hj':j<xs.length*sz:=by simpa using hj
 obtain ⟨cur,hb,hl,hs⟩:=Qz h (by
  rcases Nat.eq_zero_or_pos xs.length with h0|h0
  · rw [h0] at hj';simp at hj'
  · exact h0)
 have hf:=Rc hlen hsz xs hj'
 rw [Nat.zero_add]
 refine ⟨?_,hb.frozen j⟩
 rw [hb.cell j,id,← hf,← hl,List.getElem?_take_of_lt hj']
 simp
theorem Aa2 {w:World} {base c:Nat} {t:TypeId} {g:Nat} {xs ys:List α} (n:Nat) (os:Array Obj) (h:Own w base t sz (some ⟨g,0,none⟩) xs.length c (xs.flatMap enc)) (hx:0<xs.length) (hl:ys.length=xs.length):
  Own (sortWorldK enc sz w g 0 n ys.toArray os) base t sz (some ⟨g,0,none⟩) ys.length c (ys.flatMap enc):=by
 have hyl:(ys.flatMap enc).length=ys.length*sz:=Fb (f:=enc) hlen ys
 rcases h.2 with ⟨_,h0⟩|⟨g',cap,cur,hv,hb,hg,h1,h2,h3,h4⟩
 · omega
 ·
  injection hv with hA hn' hc
  injection hA with hA
  injection hA with hA
  subst hA
  subst hc
  have hs:xs.length*sz≤cur.size:=by
   have h5:=congrArg List.length h4
   rw [List.length_take,Array.length_toList,h.1] at h5
   rw [← h5]
   exact Nat.min_le_right _ _
  have hnew:=Q4 (n:=n) (os:=os) (d:=flatK enc sz ys.toArray) (show Blk w g t cur from hg)
  refine ⟨hyl,.inr ⟨g,c,putCells id 0 (flatK enc sz ys.toArray) cur,rfl,hb,hnew,by omega,h2,?_,?_⟩⟩
  · simpa [putCells] using h3
  ·
   rw [← hyl]
   exact Q6 (by rw [hyl];simp) (fun j hj=>Rc hlen hsz ys (by omega)) (by rw [hyl,hl];exact hs)
end
end Oq
end
section
open Go.RowKit
attribute [local go_sem ↓] Go.wp_at_zero Go.wp_at_succ
namespace Oq
theorem Aa3 (l:List Cd):∀v∈l.flatMap Cd.cells,v.oneCell'=true:=Ih _ (fun a v hv=>by simp [Cd.cells] at hv;rcases hv with rfl|rfl|rfl|rfl|rfl<;>rfl) l
end Oq
end
end Go.Proofs.YtafonabghnogaaaGreatDoor
namespace Go.Proofs
open Go.Shelf Go.RowKit Go.Lib Go.Sort
def Tryz.sortCards_ren:Go.Shelf.Ren:=⟨fun|6=>77|15=>128|14=>127|28=>185|29=>186|20=>177|21=>178|22=>179|23=>180|24=>181|25=>182|26=>183|27=>184|46=>216|47=>217|48=>218|49=>219|50=>220|57=>232|n=>n,fun|22=>26|24=>81|25=>131|3=>3|39=>172|0=>0|53=>220|55=>23|4=>4|46=>214|45=>213|50=>119|5=>5|9=>9|66=>239|70=>242|76=>254|77=>255|n=>n,fun|n=>n⟩
theorem Tryz.sortCards:Go.Proofs.SlLaysF0.n6 Tryz.prog Tryz.sortCards_ren:={
  mixed:=by kernel_rfl
  f6:=⟨Tryz.f77.name,by decide,Tryz.func77.trans (congrArg some (by kernel_rfl))⟩
  f14:=⟨Tryz.f127.name,by decide,Tryz.func127.trans (congrArg some (by kernel_rfl))⟩
  f15:=Tryz.func128.trans (congrArg some (by kernel_rfl))
  f20:=⟨Tryz.f177.name,by decide,Tryz.func177.trans (congrArg some (by kernel_rfl))⟩
  f21:=⟨Tryz.f178.name,by decide,Tryz.func178.trans (congrArg some (by kernel_rfl))⟩
  f22:=⟨Tryz.f179.name,by decide,Tryz.func179.trans (congrArg some (by kernel_rfl))⟩
  f23:=⟨Tryz.f180.name,by decide,Tryz.func180.trans (congrArg some (by kernel_rfl))⟩
  f24:=⟨Tryz.f181.name,by decide,Tryz.func181.trans (congrArg some (by kernel_rfl))⟩
  f25:=⟨Tryz.f182.name,by decide,Tryz.func182.trans (congrArg some (by kernel_rfl))⟩
  f26:=⟨Tryz.f183.name,by decide,Tryz.func183.trans (congrArg some (by kernel_rfl))⟩
  f27:=⟨Tryz.f184.name,by decide,Tryz.func184.trans (congrArg some (by kernel_rfl))⟩
  f28:=Tryz.func185.trans (congrArg some (by kernel_rfl))
  f29:=Tryz.func186.trans (congrArg some (by kernel_rfl))
  f46:=⟨Tryz.f216.name,by decide,Tryz.func216.trans (congrArg some (by kernel_rfl))⟩
  f47:=Tryz.func217.trans (congrArg some (by kernel_rfl))
  f48:=Tryz.func218.trans (congrArg some (by kernel_rfl))
  f49:=⟨Tryz.f219.name,by decide,Tryz.func219.trans (congrArg some (by kernel_rfl))⟩
  f50:=⟨Tryz.f220.name,by decide,Tryz.func220.trans (congrArg some (by kernel_rfl))⟩
  f57:=⟨Tryz.f232.name,by decide,Tryz.func232.trans (congrArg some (by kernel_rfl))⟩
  t0:=Tryz.underlying0
  a0:=Tryz.isAgg0
  z0:=Tryz.sizeOf0
  v0:=Tryz.zeroValue0
  t3:=Tryz.underlying3
  a3:=Tryz.isAgg3
  z3:=Tryz.sizeOf3
  v3:=Tryz.zeroValue3
  t4:=Tryz.underlying4
  a4:=Tryz.isAgg4
  z4:=Tryz.sizeOf4
  v4:=Tryz.zeroValue4
  t5:=Tryz.underlying5
  a5:=Tryz.isAgg5
  z5:=Tryz.sizeOf5
  v5:=Tryz.zeroValue5
  t9:=Tryz.underlying9
  a9:=Tryz.isAgg9
  z9:=Tryz.sizeOf9
  v9:=Tryz.zeroValue9
  t22:=Tryz.underlying26
  a22:=Tryz.isAgg26
  z22:=Tryz.sizeOf26
  v22:=Tryz.zeroValue26
  t25:=Tryz.underlying131
  a25:=Tryz.isAgg131
  z25:=Tryz.sizeOf131
  v25:=Tryz.zeroValue131
  t39:=Tryz.underlying172
  a39:=Tryz.isAgg172
  z39:=Tryz.sizeOf172
  v39:=Tryz.zeroValue172
  t45:=Tryz.underlying213
  a45:=Tryz.isAgg213
  z45:=Tryz.sizeOf213
  v45:=Tryz.zeroValue213
  t46:=Tryz.underlying214
  a46:=Tryz.isAgg214
  z46:=Tryz.sizeOf214
  v46:=Tryz.zeroValue214
  t50:=Tryz.underlying119
  a50:=Tryz.isAgg119
  z50:=Tryz.sizeOf119
  v50:=Tryz.zeroValue119
  t53:=Tryz.underlying220
  a53:=Tryz.isAgg220
  z53:=Tryz.sizeOf220
  v53:=Tryz.zeroValue220
  t55:=Tryz.underlying23
  a55:=Tryz.isAgg23
  z55:=Tryz.sizeOf23
  v55:=Tryz.zeroValue23
  t66:=Tryz.underlying239
  a66:=Tryz.isAgg239
  z66:=Tryz.sizeOf239
  v66:=Tryz.zeroValue239
  t70:=Tryz.underlying242
  a70:=Tryz.isAgg242
  z70:=Tryz.sizeOf242
  v70:=Tryz.zeroValue242
  t76:=Tryz.underlying254
  a76:=Tryz.isAgg254
  z76:=Tryz.sizeOf254
  v76:=Tryz.zeroValue254
  t77:=Tryz.underlying255
  a77:=Tryz.isAgg255
  z77:=Tryz.sizeOf255
  v77:=Tryz.zeroValue255}
end Go.Proofs
namespace Go.Proofs.YtafonabghnogaaaGreatDoor
section
open Go.RowKit Go.Sort Go.Shelf
attribute [local go_sem ↓] Go.wp_at_zero Go.wp_at_succ
namespace Oq
structure CdR where
 c:Cd
 lo:0≤c.d
 hi:c.d≤1000
instance:Inhabited CdR:=⟨⟨⟨0,0,0,0,0⟩,Al9 _,by decide⟩⟩
def CdR.cells (x:CdR):List Value:=x.c.cells
def Hc (x y:CdR):Int:=x.c.d-y.c.d
theorem I2 (x y:CdR):ltOf Hc x y=decide (x.c.d<y.c.d):=by
 unfold ltOf Hc
 rw [Bool.eq_iff_iff,decide_eq_true_iff,decide_eq_true_iff]
 omega
theorem Aa4:SWO (ltOf Hc) where
 irrefl x:=by rw [I2];simp
 trans x y z h1 h2:=by
  rw [I2,decide_eq_true_iff] at*
  omega
 ntrans x y z h1 h2:=by
  rw [I2,decide_eq_false_iff_not] at*
  omega
theorem Aa5 (x y:Cd) (w:World) (hx0:0≤x.d) (hx1:x.d≤1000) (hy0:0≤y.d) (hy1:y.d≤1000):
  Calls Tryz.prog 78 #[.agg #[.int .i64 x.d,.int .i64 x.m,.int .u64 (x.l:Int),.int .u64 (x.k:Int),.int .u64 (x.s:Int)],.agg #[.int .i64 y.d,.int .i64 y.m,.int .u64 (y.l:Int),.int .u64 (y.k:Int),.int .u64 (y.s:Int)]] w fun e w'=>e=.returned (.int .i64 (x.d-y.d))∧GrowOf w w':=by
 have hf:=((GrowOf.refl w).alloc (.cells #[.int .i64 x.d,.int .i64 x.m,.int .u64 (x.l:Int),.int .u64 (x.k:Int),.int .u64 (x.s:Int)] 81)).alloc (.cells #[.int .i64 y.d,.int .i64 y.m,.int .u64 (y.l:Int),.int .u64 (y.k:Int),.int .u64 (y.s:Int)] 81)
 go_enter Tryz.func78,Tryz.ntmps78
 go_wp2
 go_ret
 exact ⟨rfl,hf⟩
theorem Aa6 (blk off size:Nat) (w:World):CmpLays Tryz.prog 78 #[] CdR.cells 5 Hc blk off size w:=
 fun _ _ _ _ x y=>Aa5 x.c y.c _ x.lo x.hi y.lo y.hi
theorem Aa7 (base:Nat) (A:Option Addr) (c:Nat) (xs:List CdR) (w:World) (hown:Own w base 81 5 A xs.length c (xs.flatMap CdR.cells)) (hlen:xs.length≤1000000):
  Calls Tryz.prog 77 #[.slice A xs.length c,.func (.func 78) #[] #[]] w fun e w'=>e=.returned (.tuple #[])∧
   ∃ys:List CdR,ys.Perm xs∧ys.Pairwise (fun x y=>x.c.d≤y.c.d)∧Own w' base 81 5 A ys.length c (ys.flatMap CdR.cells)∧Fr (fun k=>Ab A=some k) w w':=by
 by_cases h0:xs.length=0
 ·
  have hx:xs=[]:=List.eq_nil_of_length_eq_zero h0
  subst hx
  have hcon:=AnyF.slices_SortFunc_none Tryz.sortCards A c (.func (.func 78) #[] #[]) w
  refine Calls.mono hcon ?_
  rintro e w' ⟨rfl,rfl⟩
  exact ⟨rfl,[],List.Perm.refl _,List.Pairwise.nil,hown,Fr.refl _ _⟩
 ·
  obtain ⟨g,rfl⟩:∃g,A=some ⟨g,0,none⟩:=by
   rcases hown.2 with ⟨_,hn⟩|⟨g,cap,cur,hv,_⟩
   · exact absurd hn h0
   ·
    injection hv with hA _ _
    exact ⟨g,hA⟩
  have hrow:=hown.row g rfl
  have eg:∀args w,(callFunc 78 args).run Tryz.prog w=.ok (.enter 78 args) w:=enters_of Tryz.func78 (by kernel_rfl) rfl
  have hcon:=AnyQ.slices_SortFunc Tryz.sortCards 5 Tryz.isAgg81 Tryz.sizeOf81 CdR.cells (fun _=>rfl) (fun x v hv=>by simp [CdR.cells,Cd.cells] at hv;rcases hv with rfl|rfl|rfl|rfl|rfl<;>rfl) Hc Aa4 78 #[] g 0 c xs.toArray w eg (Aa6 g 0 _ w) (Aa1 (enc:=CdR.cells) (fun _=>rfl) (by decide) hown) hrow.2 (by simp;omega)
  refine Calls.mono hcon ?_
  rintro e w' ⟨rfl,d',n,os,hp,hs,rfl⟩
  have hds:d'.size=xs.length:=by rw [hp.1];simp
  have hperm:d'.toList.Perm xs:=by
   have h1:=hp.2.2
   have e1:d'.extract 0 xs.toArray.size=d':=by
    rw [show xs.toArray.size=d'.size from hp.1.symm]
    simp
   have e2:xs.toArray.extract 0 xs.toArray.size=xs.toArray:=by simp
   rw [e1,e2] at h1
   simpa using h1
  refine ⟨rfl,d'.toList,hperm,?_,?_,?_⟩
  ·
   rw [List.pairwise_iff_getElem]
   intro i j hi hj hij
   have h1:=hs i j (Al2 _) hij (by rw [← hp.1];simpa using hj)
   rw [I2] at h1
   have hi':i<d'.size:=by simpa using hi
   have hj':j<d'.size:=by simpa using hj
   rw [getElem!_pos d' i hi',getElem!_pos d' j hj',decide_eq_false_iff_not] at h1
   have h2:d'.toList[i]=d'[i]:=by simp
   have h3:d'.toList[j]=d'[j]:=by simp
   rw [h2,h3]
   omega
  ·
   have h1:=Aa2 (enc:=CdR.cells) (sz:=5) (fun _=>rfl) (by decide) (ys:=d'.toList) n os hown (by omega) (by simpa using hds)
   simpa using h1
  · exact (Q5 w g n _ os).mono (fun k hk e=>by have e':k=g:=e;subst e';rfl)
theorem Aa8 {xs ys:List CdR} (hp:ys.Perm xs) (hs:ys.Pairwise (fun x y=>x.c.d≤y.c.d)) (hx:xs.Pairwise (fun x y=>x.c.d<y.c.d)):ys=xs:=by
 induction xs generalizing ys with
 |nil=>exact List.Perm.eq_nil hp
 |cons x r ih=>
  cases ys with
  |nil=>exact absurd hp.length_eq (by simp)
  |cons y q=>
   rw [List.pairwise_cons] at hs hx
   have hxy:y=x:=by
    have hy:y∈x::r:=hp.subset (by simp)
    rcases List.mem_cons.1 hy with h|h
    · exact h
    ·
     have h1:=hx.1 y h
     have hx':x∈y::q:=hp.symm.subset (by simp)
     rcases List.mem_cons.1 hx' with h2|h2
     · exact h2.symm
     ·
      have h3:=hs.1 x h2
      omega
   subst hxy
   rw [ih (List.perm_cons y|>.1 hp) hs.2 hx.2]
end Oq
end
section
open Go.RowKit
attribute [local go_sem ↓] Go.wp_at_zero Go.wp_at_succ
namespace Oq
def I3 (cards:List Cd) (w:World) (e:Ending) (w':World):Prop:=
 ∃g:Gph,e=.returned (.pointer (some ⟨g.gb,0,none⟩))∧GAt w' w.heap.size g∧g.nodes=[]∧g.cards=cards∧Fr Non w w'
theorem Lr (l:List CdR):l.flatMap CdR.cells=(l.map CdR.c).flatMap Cd.cells:=by
 rw [List.flatMap_map]
 rfl
theorem Aa9 (B c:Nat) (A:Option Addr) (l:List CdR) (w:World) (hr:Rd w B 5 A l.length (l.flatMap CdR.cells)) (hs:l.Pairwise (fun x y=>x.c.d<y.c.d)) (hlen:l.length≤1000000) (hpos:0<w.heap.size) (hcs:∀x∈l,x.c.s<18446744073709551616):
  Calls Tryz.prog 23 #[.slice A l.length c] w (I3 (l.map CdR.c) w):=by
 have kc:=Lib.hid (W5 B l.length c A _ w hr (by rw [Lr];exact Aa3 _) hlen)
 have hpost:Hid (∀(A1:Option Addr) (c1:Nat) (w1 w4:World),Fr Non w w1→Own w4 w.heap.size 81 5 A1 l.length c1 (l.flatMap CdR.cells)→
   Fr (fun k=>Ab A1=some k) ((w1.alloc (.map #[] 0)).alloc (.cells #[.slice A1 l.length c1,.map (some w1.heap.size),.slice none 0 0] 123)) w4→(∀k,Ab A1=some k→w.heap.size≤k∧k<w1.heap.size)→
   I3 (l.map CdR.c) w (.returned (.pointer (some ⟨w1.heap.size+1,0,none⟩))) w4):=by
  intro A1 c1 w1 w4 f1 o4 f4 hrow
  have hmb:¬Ab A1=some w1.heap.size:=fun e=>by have:=(hrow _ e).2;omega
  have hgb:¬Ab A1=some (w1.heap.size+1):=fun e=>by have:=(hrow _ e).2;omega
  have bg:=Blk.new (w1.alloc (.map #[] 0)) 123 #[.slice A1 l.length c1,.map (some w1.heap.size),.slice none 0 0]
  rw [Am0] at bg
  have hm:=((MapAt.made w1).fr ((Fr.refl Non _).alloc (.cells #[.slice A1 l.length c1,.map (some w1.heap.size),.slice none 0 0] 123)) zq).fr f4 hmb
  have sz:=f1.size
  refine ⟨⟨w1.heap.size+1,w1.heap.size,0,A1,c1,l.map CdR.c,none,0,[]⟩,rfl,?_,rfl,rfl,?_⟩
  ·
   refine ⟨?_,hpos,by show _≤w1.heap.size+1;omega,sz,?_,Own.nil _ _ _ _,Al2 _,Al2 _,(fun n hn=>absurd hn (Al3)),?_,?_,hm,fun n hn=>absurd hn (Al3)⟩
   ·
    have h1:=bg.fr f4 hgb
    show Blk w4 (w1.heap.size+1) 123 #[.slice A1 (l.map CdR.c).length c1,.map (some w1.heap.size),.slice none 0 0]
    rw [Al8]
    exact h1
   ·
    show Own w4 w.heap.size 81 5 A1 (l.map CdR.c).length c1 ((l.map CdR.c).flatMap Cd.cells)
    rw [Al8,← Lr]
    exact o4
   ·
    show (l.map CdR.c).length≤1000000
    rw [Al8]
    exact hlen
   ·
    intro c hc
    obtain ⟨x,hx,rfl⟩:=List.mem_map.1 hc
    exact hcs x hx
  · exact ((f1.alloc _).alloc _).trans f4 (fun k hk e=>absurd hk (by have:=(hrow k e).1;omega))
 generalize I3 (l.map CdR.c) w=POST at*
 have ks:=Lib.hid (fun (A1:Option Addr) (c1:Nat) (w3:World) (o:Own w3 w.heap.size 81 5 A1 l.length c1 (l.flatMap CdR.cells))=>Aa7 w.heap.size A1 c1 l w3 o hlen)
 have hsame:=Lib.hid (fun (ys:List CdR) (hp:ys.Perm l) (hq:ys.Pairwise (fun x y=>x.c.d≤y.c.d))=>Aa8 hp hq hs)
 clear hr hs hcs
 go_enter Tryz.func23,Tryz.ntmps23
 go_wp2_with (fail)
 refine (kc.out).mono ?_
 rintro _ w1 ⟨A1,c1,rfl,o1,f1⟩
 have hrow:=o1.row
 have bg:=Blk.new (w1.alloc (.map #[] 0)) 123 #[.slice A1 l.length c1,.map (some w1.heap.size),.slice none 0 0]
 rw [Am0] at bg
 have o3:=(o1.alloc (.map #[] 0)).alloc (.cells #[.slice A1 l.length c1,.map (some w1.heap.size),.slice none 0 0] 123)
 have g0:((w1.alloc (.map #[] 0)).alloc (.cells #[.slice A1 l.length c1,.map (some w1.heap.size),.slice none 0 0] 123)).cell? ⟨w1.heap.size+1,0,none⟩=some (.slice A1 l.length c1):=bg.cell 0
 have kq:=Lib.hid (ks.out A1 c1 _ o3)
 have hp:=Lib.hid (fun (w4:World) o f=>hpost.out A1 c1 w1 w4 f1 o f hrow)
 have f1':=Lib.hid f1
 clear kc ks hpost o1 o3 hrow f1 bg
 have hmm:=@run_makeMap Tryz.prog
 go_wp2_with (fail)
 refine (kq.out).mono ?_
 rintro _ w4 ⟨rfl,ys,hperm,hpw,o4,f4⟩
 obtain rfl:=hsame.out ys hperm hpw
 have fin:=Lib.hid (hp.out w4 o4 f4)
 clear kq hp hsame o4 f4 hperm hpw f1' g0
 go_wp2_with (fail)
 exact fin.out
theorem Ab0 (n:Nat):Sg.pub n<18446744073709551616:=Am1 (Fd.pow_lt _ _) (by decide)
theorem cd_d (d m:Int) (l k s:Nat):(Cd.mk d m l k s).d=d:=rfl
theorem cd_s' (d m:Int) (l k s:Nat):(Cd.mk d m l k s).s=s:=rfl
theorem Gc (k:Nat) (m:Int):(Bw k m).d=(k:Int)+1:=cd_d _ _ _ _ _
theorem Ls (k:Nat) (m:Int):(Bw k m).s=Sg.pub (sec Bc (k+1)):=cd_s' _ _ _ _ _
theorem Lt:∀(l:List Int) (i:Nat),i+l.length≤1000→∃xs:List CdR,xs.map CdR.c=Bg i l∧xs.Pairwise (fun x y=>x.c.d<y.c.d)∧(∀x∈xs,(i:Int)<x.c.d)∧∀x∈xs,x.c.s<18446744073709551616
 |[],i,_=>⟨[],rfl,List.Pairwise.nil,by simp,by simp⟩
 |m::r,i,h=>by
  have h':i+1+r.length≤1000:=by rw [List.length_cons] at h;omega
  have hi:i+1≤1000:=by omega
  obtain ⟨xs,h1,h2,h3,h4⟩:=Lt r (i+1) h'
  refine ⟨⟨Bw i m,by rw [Gc];omega,by rw [Gc];omega⟩::xs,?_,?_,?_,?_⟩
  ·
   show Bw i m::xs.map CdR.c=Bw i m::Bg (i+1) r
   rw [h1]
  ·
   refine List.pairwise_cons.2 ⟨fun x hx=> ?_,h2⟩
   show (Bw i m).d<x.c.d
   rw [Gc]
   have:=h3 x hx
   omega
  ·
   intro x hx
   rcases List.mem_cons.1 hx with rfl|hx
   ·
    show (i:Int)<(Bw i m).d
    rw [Gc]
    omega
   ·
    have:=h3 x hx
    omega
  ·
   intro x hx
   rcases List.mem_cons.1 hx with rfl|hx
   ·
    show (Bw i m).s<_
    rw [Ls]
    exact Ab0 _
   · exact h4 x hx
theorem Lu (B n c:Nat) (A:Option Addr) (l:List Int) (w:World) (hn:Hid (l.length=n)) (hnm:n≤1000) (hr:Rd w B 5 A n ((Bg 0 l).flatMap Cd.cells)) (hpos:0<w.heap.size):
  Calls Tryz.prog 23 #[.slice A n c] w (I3 (Bg 0 l) w):=by
 obtain ⟨xs,h1,h2,_,h4⟩:=Lt l 0 (by rw [hn.out];omega)
 have hl:xs.length=n:=by
  have:=congrArg List.length h1
  rw [Al8,Kk,hn.out] at this
  exact this
 rw [← h1] at hr ⊢
 rw [← hl] at hr ⊢
 rw [← Lr] at hr
 exact Aa9 B c A xs w hr h2 (by omega) hpos h4
theorem GAt.ge {w:World} {base:Nat} {g:Gph} (h:GAt w base g) {k:Nat} (hk:g.own k):base≤k:=by
 rcases hk with e|e|e
 · rw [e];exact h.gbase
 · rw [e];exact h.mbase
 · exact (h.own.row k e).1
theorem KindsAt.own {w w':World} {base:Nat} {g:Gph} (h:KindsAt w) (hg:GAt w base g) (hf:Fr g.own w w'):KindsAt w':=fun k hk=>hf.cell (h k hk) (fun e=>by have h1:=hg.ge e;have h2:=hg.pos;have h3:base≤0:=h1;omega)
theorem Blk.keepG {w w':World} {base b:Nat} {g:Gph} {t:TypeId} {cs:Array Value} (h:Blk w b t cs) (hg:GAt w base g) (hf:Fr g.own w w') (ht:¬Gty t):Blk w' b t cs:=h.fr hf (fun e=>ht (hg.types _ _ _ _ h e))
theorem OpL.own.keepG {w w':World} {base bx:Nat} {g:Gph} {x:OpL} (h:x.own w bx) (hg:GAt w base g) (hf:Fr g.own w w'):x.own w' bx:=
 h.keepP hf hg.types (by unfold Gty;decide) (by unfold Gty;decide) (by unfold Gty;decide) (by unfold Gty;decide) (by unfold Gty;decide) (by unfold Gty;decide) (by unfold Gty;decide)
def Hy (base:Nat) (g:Gph) (l:List Pn) (w:World) (e:Ending) (w':World):Prop:=
 e=.returned (.int .i64 0)∧∃g':Gph,GAt w' base g'∧g'.gb=g.gb∧g'.cards=g.cards∧g'.pns=l∧Fr g.own w w'
theorem Gd {base:Nat} {g:Gph} {x:OpL} {w:World} {l:List Pn} {p:Pn} (hl:g.pns=l) (hg:GAt w base g) (hat:x.at w w.heap.size) (hok:x.op.ok) (hkn:KindsAt w) (he:Aj g.cards l x.op=0) (hp:Av l x.op=p):
  Calls Tryz.prog 17 #[.pointer (some ⟨g.gb,0,none⟩),.agg x.cells] w (Hy base g (l++[p]) w):=by
 subst hl
 refine (Hv base g x w hg hat hok hkn).mono ?_
 rintro e w' ⟨rfl,h⟩
 rcases h with ⟨h0,_⟩|⟨_,g',h1,h2,_,h4,h5,h6,_⟩
 · exact absurd he h0
 ·
  refine ⟨by rw [he],g',h1,h2,h4,?_,h6⟩
  rw [h5,hp]
theorem Lv {base:Nat} {g:Gph} {x:OpL} {w:World} {l:List Pn} {err:Int} (hl:g.pns=l) (hg:GAt w base g) (hat:x.at w w.heap.size) (hok:x.op.ok) (hkn:KindsAt w) (he:Aj g.cards l x.op=err) (h0:err≠0):
  Calls Tryz.prog 17 #[.pointer (some ⟨g.gb,0,none⟩),.agg x.cells] w fun e w'=>e=.returned (.int .i64 err)∧Fr Non w w':=by
 subst hl
 subst he
 refine (Hv base g x w hg hat hok hkn).mono ?_
 rintro e w' ⟨rfl,h⟩
 rcases h with ⟨_,hf⟩|⟨h1,_⟩
 · exact ⟨rfl,hf⟩
 · exact absurd h1 h0
theorem Ge {o:Op} (h:o.ok):(sgn o).ok:=by
 have h1:Sg.r (sec Bc o.by_.toNat) o.bare<18446744073709551616:=Am1 (Sg.r_lt _ _) (by decide)
 have h2:Sg.s (sec Bc o.by_.toNat) o.bare<18446744073709551616:=Am1 (Sg.s_lt _ _) (by decide)
 unfold sgn
 generalize Sg.r (sec Bc o.by_.toNat) o.bare=R at*
 generalize Sg.s (sec Bc o.by_.toNat) o.bare=S at*
 exact {h with r:=h1,s:=h2}
end Oq
namespace Oq
attribute [local go_sem ↓] Ci Ef
attribute [local go_sem] Al6 Al7
theorem Rows.step {cards:List Cd} {l:List Pn} (h:Rows cards l) {i:Nat} {n:Pn} (hi:l[i]? =some n):Aj cards (l.take i) n.o=0∧Av (l.take i) n.o=n:=by
 induction h with
 |nil=>simp at hi
 |snoc l o hl ho ih=>
  rcases Nat.lt_or_ge i l.length with hlt|hge
  ·
   rw [List.getElem?_append_left hlt] at hi
   rw [List.take_append_of_le_length (Nat.le_of_lt hlt)]
   exact ih hi
  ·
   have e:i=l.length:=by
    have:=(List.getElem?_eq_some_iff.1 hi).1
    rw [Am3,List.length_singleton] at this
    omega
   subst e
   rw [List.getElem?_append_right (Am2 _),Nat.sub_self] at hi
   injection hi with hi
   subst hi
   rw [List.take_left']
   · exact ⟨ho,rfl⟩
   · rfl
def Lw (cards:List Cd) (l:List Pn) (w:World) (e:Ending) (w':World):Prop:=
 ∃(g:Gph) (base:Nat),e=.returned (.pointer (some ⟨g.gb,0,none⟩))∧w.heap.size≤base∧GAt w' base g∧g.cards=cards∧g.pns=l∧Fr Non w w'
theorem H5 (base:Nat) (r:RG) (w:World) (h:r.own w base) (hcs:r.cards=Bg 0 [1,2,3,1]) (hpos:0<w.heap.size) (hk:KindsAt w):
  Calls Tryz.prog 13 #[.agg r.cells] w (Lw r.cards r.l w):=by
 have hi:(Tryz.prog.info? 44).map (·.size)=some 27:=by kernel_rfl
 have hfew:=h.few
 have hn4:r.cards.length=4:=by rw [hcs,Kk];rfl
 have hr0:=h.cards.sl.rd
 rw [hn4,hcs] at hr0
 have bg:=Blk.new w 32 r.cells
 have f0:Fr Non w (w.alloc (.cells r.cells 32)):=(Fr.refl Non w).alloc _
 have c0:(w.alloc (.cells r.cells 32)).cell? ⟨w.heap.size,0,none⟩=some (.slice r.cA 4 r.cC):=by rw [← hn4];exact bg.cell 0
 have c1:(w.alloc (.cells r.cells 32)).cell? ⟨w.heap.size,1,none⟩=some (.slice r.lA r.l.length r.lC):=bg.cell 1
 have kn:=Lib.hid (fun (w':World) (hf:Fr Non w w')=>Lu w.heap.size 4 r.cC r.cA [1,2,3,1] w' rfl (by decide) (hr0.fr hf zr) (Nat.lt_of_lt_of_le hpos hf.size))
 have ka:=Lib.hid (fun (j:Nat) (nd:Pn) (hj:r.l[j]? =some nd) (b:Nat) (q:Gph) (w':World) (hb:w.heap.size≤b) (hq:GAt w' b q) (hqc:q.cards=r.cards) (hqp:q.pns=r.l.take j) (hf:Fr Non w w')=>show ∃x:OpL,∃b' off:Nat,r.lA=some ⟨b',off,none⟩∧World.rangeAt w' b' (off+j*27) x.cells.toList∧x.cells.size=27∧
   Calls Tryz.prog 17 #[.pointer (some ⟨q.gb,0,none⟩),.agg x.cells] w' (Hy b q (r.l.take (j+1)) w') from by
  obtain ⟨x,b',off,_,hop,hxo,hA,_,hc⟩:=h.xAt hj
  obtain ⟨s1,s2⟩:=h.rows.step hj
  refine ⟨x,b',off,hA,fun k v hv=>hf.cell (hc k (List.getElem?_eq_some_iff.1 hv).1 v hv) zq,rfl,?_⟩
  rw [Ea hj]
  exact Gd hqp hq (hxo.non hf).at (by rw [hop];exact (h.ok nd (Am4 hj)).1) (hk.fr hf) (by rw [hqc,hop];exact s1) (by rw [hop];exact s2))
 have hcs':=Lib.hid hcs
 clear h hk hr0 bg hcs hn4
 have hfin:Hid (∀(g:Gph) (b:Nat) (w':World),w.heap.size≤b→GAt w' b g→g.cards=r.cards→g.pns=r.l→Fr Non w w'→Lw r.cards r.l w (.returned (.pointer (some ⟨g.gb,0,none⟩))) w'):=fun g b w' h1 h2 h3 h4 h5=>⟨g,b,rfl,h1,h2,h3,h4,h5⟩
 obtain ⟨N,hN⟩:=Aa r.l.length
 rw [hN.out] at c1 hfew
 generalize Lw r.cards r.l w=POST at*
 generalize r.cells=CS at*
 generalize r.cards=CDS at*
 generalize r.lA=LA at*
 generalize r.lC=LC at*
 generalize r.cA=CA at*
 generalize r.cC=CC at*
 generalize r.l=l at*
 go_enter Tryz.func13,Tryz.ntmps13
 go_upto_region 1 with (fail)
 have hb2:w.heap.size+1≤(w.alloc (.cells CS 32)).heap.size:=by rw [Am0];exact Am2 _
 generalize w.alloc (.cells CS 32)=w0 at*
 go_upto_region 2 with (go_at_call 23;(with_reducible refine (kn.out _ f0).mono ?_);rintro _ w2 ⟨g,rfl,hg,hgn,hgc,f2⟩)
 have fr2:=f0.trans f2 zr
 replace c1:=f2.cell c1 zq
 have hpn:Hid (g.pns=l.take 0):=by show _=_;unfold Gph.pns;rw [hgn];rfl
 have hgc2:Hid (g.cards=CDS):=hgc.trans hcs'.out.symm
 obtain ⟨gb,hgb⟩:=Aa g.gb
 rw [hgb.out]
 obtain ⟨b,hbe⟩:=Aa w0.heap.size
 rw [hbe.out] at hg hb2
 clear kn hgn hgc c0 f2 f0 hcs' hbe
 go_wp2_with (fail)
 go_loopw [4] (fun v wr=>∃(j:Nat) (q:Gph),v=.int .i64 (j:Int)∧j≤N∧Hid (GAt wr b q)∧Hid (q.gb=gb)∧Hid (q.cards=CDS)∧Hid (q.pns=l.take j)∧wr.cell? ⟨w.heap.size,1,none⟩=some (.slice LA N LC)∧Fr Non w wr) (fun v _=>N-(intOf v).toNat)
 case atStart=>exact ⟨0,g,rfl,Al2 _,hg,hgb.out,hgc2.out,hpn.out,c1,fr2⟩
 case round=>
  clear hg hgb hgc2 hpn c1 fr2
  obtain ⟨j,q,rfl,hj,hq,hqb,hqc,hqp,c1,hf⟩:=hrel
  by_cases hlt:j<N
  ·
   obtain ⟨nd,hnd⟩:∃nd,l[j]? =some nd:=⟨_,Al1 (by rw [hN.out];exact hlt)⟩
   obtain ⟨x,bx,off,rfl,hrg,hsz,kadd⟩:=ka.out j nd hnd b q wr (by omega) hq.out hqc.out hqp.out hf
   rw [hqb.out] at kadd
   replace kadd:=Lib.hid kadd
   have i1:(0:Int)≤j:=by omega
   have i2:(j:Int)<N:=by omega
   have i3:(j:Int).toNat=j:=by omega
   have hlm:=Ku (P:=Tryz.prog) x.cells bx (off+j*27) Tryz.underlying44 rfl (by rw [hsz];exact hi)
   have hlm2:=hlm wr hrg
   clear hlm hsz ka hnd
   generalize x.cells=XC at*
   go_upto_region 6 with (go_at_call 17;(with_reducible refine (kadd.out).mono ?_);rintro _ w5 ⟨rfl,q2,hq2,hq2b,hq2c,hq2p,F5⟩)
   have c5:=F5.cell c1 (fun e=>by have h1:b≤w.heap.size:=hq.out.ge e;omega)
   have fr5:=hf.trans F5 (fun k hk e=>by have h1:=hq.out.ge e;omega)
   have e1:Hid (q2.gb=gb):=hq2b.trans hqb.out
   have e2:Hid (q2.cards=CDS):=hq2c.trans hqc.out
   clear hrg hlm2 kadd hq hqb hqc hqp F5 hf c1
   go_wp2_with (fail)
   go_roundw
   case rel=>exact ⟨j+1,q2,by go_num,by omega,hq2,e1.out,e2.out,hq2p,c5,fr5⟩
   case measure=>simp [intOf];omega
  ·
   obtain rfl:j=N:=by omega
   have hend:q.pns=l:=by rw [hqp.out,Al4 (by rw [hN.out];exact Am2 _)]
   have hd:=Lib.hid (hfin.out q b wr (by omega) hq.out hqc.out hend hf)
   rw [hqb.out] at hd
   have t1:decide ((j:Int)<(j:Int))=false:=decide_eq_false (by omega)
   clear hfin ka hq hqc hqp hend
   go_wp2_with (fail)
   exact hd.out
end Oq
end
section
open Go.RowKit
namespace Oq
def bef (l:List Pn) (a b:Id):Bool:=match plc l a,plc l b with|some i,some j=>(l[j]?.map (fun n=>n.ps i)).getD false|_,_=>false
theorem bef_iff {l:List Pn} {a b:Id}:bef l a b=true↔∃i j m,plc l a=some i∧plc l b=some j∧l[j]? =some m∧m.ps i=true:=by
 unfold bef
 constructor
 ·
  intro h
  split at h
  ·
   rename_i i j hi hj
   obtain ⟨m,hm,_⟩:=Bz hj
   rw [hm] at h
   exact ⟨i,j,m,hi,hj,hm,h⟩
  · cases h
 ·
  rintro ⟨i,j,m,h1,h2,h3,h4⟩
  rw [h1,h2]
  dsimp only
  rw [h3]
  exact h4
theorem Gph.level_eq (g:Gph) (a:Id):g.level a=Bq g.pns a:=by
 unfold Gph.level Bq Gph.pns
 rw [Es]
 split
 ·
  rename_i i hi
  rw [hi]
  dsimp only
  rw [Al5,Option.map_map]
  rfl
 ·
  rename_i hi
  rw [hi]
theorem Ab1 (l:List Ai):∀k,k≤l.length→C5 l (fun _=>true) k=(l.take k).map Ai.id:=by
 intro k
 induction k with
 |zero=>intro _;rfl
 |succ k ih=>
  intro hk
  have hx:l[k]? =some l[k]:=Al1 (by omega)
  rw [Fy l _ k hx,ih (by omega),Ea hx,List.map_append,if_pos rfl]
  rfl
theorem Re {g:Gph} {l:List Pn} (hl:g.pns=l) {ids:List Id} (h:ids.Perm (C5 g.nodes (fun _=>true) g.nodes.length)):ids.Perm (l.map Pn.id):=by
 subst hl
 rw [Ab1 _ _ (Am2 _),List.take_length] at h
 unfold Gph.pns
 rw [List.map_map]
 exact h
theorem Rows.named {cards:List Cd} {l:List Pn} (h:Rows cards l) {ids:List Id} (hp:ids.Perm (l.map Pn.id)) {a:Id} (ha:a∈ids):∃p n,plc l a=some p∧l[p]? =some n∧n.id=a:=by
 obtain ⟨n,hn,rfl⟩:=List.mem_map.1 (hp.mem_iff.1 ha)
 obtain ⟨p,hp⟩:=Am5 hn
 exact ⟨p,n,(h.ok p n hp).plc,hp,rfl⟩
def Dn (l:List Pn) (o:Op):Int:=if clash l o.past=true∨o.at_<late l o.past then 6 else if Az l (Ah l o.past) o=true then 11 else 0
def Ev (l:List Pn) (o:Op):Int:=if o.past.any (fun id=>(plc l id).isNone)=true then 10 else Dn l o
theorem Ab2 {cards:List Cd} {l:List Pn} {o:Op} (h:o.chk=0) (h2:plc l o.name=none) (h3:l.length<200) (h4:Bk cards o.by_=none):Aj cards l o=17:=by
 rw [Ix h h2 h3,h4]
theorem Ab3 {cards:List Cd} {l:List Pn} {o:Op} {c:Cd} (h:o.chk=0) (h2:plc l o.name=none) (h3:l.length<200) (h4:Bk cards o.by_=some c) (h5:Sg.check c.s o.bare o.r o.s=false):Aj cards l o=12:=by
 rw [Ix h h2 h3,h4]
 dsimp only
 rw [if_pos h5]
theorem Ab4 {cards:List Cd} {l:List Pn} {o:Op} {c:Cd} (h:o.chk=0) (h2:plc l o.name=none) (h3:l.length<200) (h4:Bk cards o.by_=some c) (h5:Sg.check c.s o.bare o.r o.s=true):
  Aj cards l o=if o.kind=1∧l≠[] then 1 else Ev l o:=by
 rw [Ix h h2 h3,h4]
 dsimp only
 rw [if_neg (by rw [h5];simp)]
 rfl
theorem Ab5 {l:List Pn} {o:Op} {y:Id} (hy:y∈o.past) (h:(plc l y).isNone=true):Ev l o=10:=by
 unfold Ev
 rw [if_pos (List.any_eq_true.2 ⟨y,hy,h⟩)]
theorem Ab6 {l:List Pn} {o:Op} (h:∀y∈o.past,∃p,plc l y=some p):Ev l o=Dn l o:=by
 unfold Ev
 rw [if_neg]
 intro e
 obtain ⟨y,hy,he⟩:=List.any_eq_true.1 e
 obtain ⟨p,hp⟩:=h y hy
 rw [hp] at he
 cases he
theorem Lx {l:List Pn} {ids:List Id} {a p:Nat} (h:∀y∈ids,∃p,plc l y=some p) (ha:(Ak l ids)[a]? =some p):∃y,y∈ids∧plc l y=some p:=by
 unfold Ak at ha
 rw [Al5] at ha
 cases hy:ids[a]? with
 |none=>rw [hy] at ha;cases ha
 |some y=>
  rw [hy] at ha
  injection ha with ha
  have hm:=Am4 hy
  obtain ⟨q,hq⟩:=h y hm
  have ha0:(plc l y).getD 0=p:=ha
  rw [hq] at ha0
  have ha':q=p:=ha0
  subst ha'
  exact ⟨y,hm,hq⟩
theorem Ly {l:List Pn} {ids:List Id} {y:Id} {p:Nat} (hy:y∈ids) (hp:plc l y=some p):∃a:Nat,(Ak l ids)[a]? =some p:=by
 obtain ⟨a,ha⟩:=Am5 hy
 refine ⟨a,?_⟩
 unfold Ak
 rw [Al5,ha]
 simp [hp]
theorem Ab7 {l:List Pn} {o:Op} (hlen:l.length≤200) (h:∀y∈o.past,∃p,plc l y=some p) {a b p q:Nat} {m:Pn} (h1:(Ak l o.past)[a]? =some p) (h2:(Ak l o.past)[b]? =some q) (h3:l[p]? =some m) (h4:m.ps q=true):Dn l o=6:=by
 obtain ⟨y,hy,hp⟩:=Lx h h1
 obtain ⟨z,hz,hq⟩:=Lx h h2
 unfold Dn
 rw [if_pos (Or.inl (Wl hlen hy hz hp hq h3 h4))]
theorem Ab8 {l:List Pn} {o:Op} (h:∀y∈o.past,∃p,plc l y=some p) {a p:Nat} {m:Pn} (h1:(Ak l o.past)[a]? =some p) (h3:l[p]? =some m) (h4:o.at_<m.o.at_):Dn l o=6:=by
 obtain ⟨y,hy,hp⟩:=Lx h h1
 unfold Dn
 rw [if_pos (Or.inr (Wn hy hp h3 h4))]
theorem Ab9 {l:List Pn} {o:Op} (h0:0≤o.at_) (h:∀y∈o.past,∃p,plc l y=some p) (h1:∀(a b p q:Nat) (m:Pn),(Ak l o.past)[a]? =some p→(Ak l o.past)[b]? =some q→l[p]? =some m→m.ps q=false)
  (h2:∀(a p:Nat) (m:Pn),(Ak l o.past)[a]? =some p→l[p]? =some m→m.o.at_≤o.at_):Dn l o=if Az l (Ah l o.past) o=true then 11 else 0:=by
 unfold Dn
 rw [if_neg]
 rintro (e|e)
 ·
  rw [Wm (fun a ha b hb p r m k1 k2 k3=> ?_)] at e
  · cases e
  ·
   obtain ⟨i,hi⟩:=Ly ha k1
   obtain ⟨j,hj⟩:=Ly hb k2
   exact h1 i j p r m hi hj k3
 ·
  refine Wo h0 h (fun a ha p m k1 k2=> ?_) e
  obtain ⟨i,hi⟩:=Ly ha k1
  exact h2 i p m hi k2
theorem Rf {cards:List Cd} {l:List Pn} (h:Rows cards l) {ids:List Id} (hids:∀id∈ids,∃p,plc l id=some p):
  C3 (Df l) (Ak l ids) l.length (fun _=>false)=Ah l ids:=funext (fun q=>Wi h hids q)
end Oq
end
section
open Go.RowKit
attribute [local go_sem ↓] Go.wp_at_zero Go.wp_at_succ
namespace Oq
attribute [local go_sem ↓] Fe
theorem Ac0 {l:List Pn} {id:Id} (h:∀(j:Nat) (n:Pn),l[j]? =some n→n.id≠id):plc l id=none:=by
 unfold plc
 rw [List.findIdx?_eq_none_iff]
 intro n hn
 obtain ⟨j,hj⟩:=Am5 hn
 exact decide_eq_false (h j n hj)
theorem Ac1 {l:List Pn} {id:Id} {k:Nat} {n:Pn} (hk:l[k]? =some n) (he:n.id=id) (h:∀(j:Nat) (n:Pn),j<k→l[j]? =some n→n.id≠id):plc l id=some k:=by
 obtain ⟨hl,rfl⟩:=List.getElem?_eq_some_iff.1 hk
 unfold plc
 rw [List.findIdx?_eq_some_iff_getElem]
 refine ⟨hl,decide_eq_true he,fun j hj=> ?_⟩
 have:=h j l[j] hj (Al1 (by omega))
 simpa using this
theorem Rg {r:RG} {k:Nat} {n:Pn} (h:r.l[k]? =some n):r.ids[k]? =some n.id:=by
 unfold RG.ids
 rw [Al5,h]
 rfl
theorem Hd (base:Nat) (r:RG) (id:Id) (w:World) (h:r.own w base):
  Calls Tryz.prog 37 #[.agg r.cells,.agg id.V] w fun e w'=>e=.returned (.int .i64 (Aw r.l id))∧Fr Non w w':=by
 have hr:=h.rdIds
 have hfew:=h.few
 have hat:Hid (∀(k:Nat) (n:Pn),r.l[k]? =some n→r.ids[k]? =some n.id):=fun k n hk=>Rg hk
 have hno:Hid ((∀(j:Nat) (n:Pn),j<r.l.length→r.l[j]? =some n→n.id≠id)→Aw r.l id= -1):=fun hh=>Wq (Ac0 (fun j n hj=>hh j n (List.getElem?_eq_some_iff.1 hj).1 hj))
 have hyes:Hid (∀(k:Nat) (n:Pn),r.l[k]? =some n→n.id=id→(∀(j:Nat) (n:Pn),j<k→r.l[j]? =some n→n.id≠id)→Aw r.l id=(k:Int)):=fun k n h1 h2 h3=>Wp (Ac1 h1 h2 h3)
 have bg:=(Blk.new w 32 r.cells).alloc (.cells id.V 38)
 have bi:=Blk.new (w.alloc (.cells r.cells 32)) 38 id.V
 rw [Am0] at bi
 have f0:Fr Non w ((w.alloc (.cells r.cells 32)).alloc (.cells id.V 38)):=((Fr.refl Non w).alloc _).alloc _
 have g2:Hid (r.cells[2]? =some (.slice r.iA r.l.length r.iC)):=rfl
 have hm:=Jy
 clear h
 generalize Aw r.l id=R at*
 generalize hids:r.ids=ids at*
 generalize hl:r.l=l at*
 generalize r.iA=A at*
 generalize r.iC=C at*
 generalize r.cells=CS at*
 go_enter Tryz.func37,Tryz.ntmps37
 go_wp2
 go_loopw [5] (fun v wr=>∃k:Nat,v=.int .i64 (k:Int)∧k≤l.length∧Hid (∀(j:Nat) (n:Pn),j<k→l[j]? =some n→n.id≠id)∧Fr Non ((w.alloc (.cells CS 32)).alloc (.cells id.V 38)) wr) (fun v _=>l.length-(intOf v).toNat)
 case atStart=>exact ⟨0,rfl,by omega,fun j n hj=>absurd hj (Nat.not_lt_zero _),Fr.refl _ _⟩
 case round=>
  obtain ⟨k,rfl,hk,hh,hf⟩:=hrel
  have bgk:=bg.fr hf zq
  have d2:=(bgk.cell 2).trans g2.out
  have hfin:Fr Non w wr:=f0.trans hf zr
  by_cases hlt:k<l.length
  ·
   obtain ⟨n,hn⟩:∃n,l[k]? =some n:=⟨_,Al1 hlt⟩
   obtain ⟨b,off,rfl,hbB,k0,k1,k2⟩:=Id.at (hr.fr hfin zr) (hat.out k n hn)
   have bik:=bi.fr hf zq
   have c0:=bik.cell 0
   have c1:=bik.cell 1
   have c2:=bik.cell 2
   have hcase:=Id.eq_iff n.id id
   by_cases he:Id.eq n.id id=true
   ·
    have hR:Hid (R=(k:Int)):=hyes.out k n hn (hcase.1 he) hh.out
    clear hn hat hyes hno hcase bg bi f0 bgk bik hids hl
    generalize n.id=y at*
    generalize l.length=N at*
    have i1:(0:Int)≤k:=by omega
    have i2:(k:Int)<N:=by omega
    have i3:(k:Int).toNat=k:=by omega
    go_wp2
    go_quiet (fail)
    go_wp2
    go_ret
    exact ⟨by rw [hR.out];rfl,hfin.drewN _⟩
   ·
    have he:=Am6 _▸he
    have hnext:Hid (∀(j:Nat) (n:Pn),j<k+1→l[j]? =some n→n.id≠id):=by
     intro j m hj hm
     rcases Nat.lt_or_ge j k with h1|h1
     · exact hh.out j m h1 hm
     ·
      have e:j=k:=by omega
      subst e
      rw [hn] at hm
      injection hm with hm
      subst hm
      intro e
      rw [hcase.2 e] at he
      cases he
    clear hn hat hyes hno hcase bgk bik hids hl hh
    generalize n.id=y at*
    generalize hN:l.length=N at*
    have i1:(0:Int)≤k:=by omega
    have i2:(k:Int)<N:=by omega
    have i3:(k:Int).toNat=k:=by omega
    clear hN
    go_wp2
    go_quiet (fail)
    go_wp2
    go_roundw
    case rel=>exact ⟨k+1,by go_num,by omega,hnext,hf.drewN _⟩
    case measure=>simp [intOf];omega
  ·
   obtain rfl:k=l.length:=by omega
   have hR:Hid (R= -1):=hno.out hh.out
   go_wp2
   go_ret
   exact ⟨by rw [hR.out];rfl,hfin⟩
end Oq
namespace Oq
attribute [local go_sem] Al6 Al7
theorem Ew (v:Value):Instr.loadAt 32 v=ldS 32 v:=rfl
attribute [local go_sem ↓] Ew Fe
theorem Dg:(Tryz.prog.info? 32).map (·.size)=some 5:=by kernel_rfl
theorem Rh (r:RG):r.ids.length=r.l.length:=by simp [RG.ids]
theorem Ri (base:Nat) (r:RG) (w:World) (h:r.own w base):Calls Tryz.prog 22 #[.agg r.cells] w (En r.ids r.l.length w):=by
 have hr:=h.rdIds
 have hfew:=h.few
 have bg:=Blk.new w 32 r.cells
 have f0:Fr Non w (w.alloc (.cells r.cells 32)):=(Fr.refl Non w).alloc _
 have g2:r.cells[2]? =some (.slice r.iA r.l.length r.iC):=rfl
 have c2:=(bg.cell 2).trans g2
 have k:=Lib.hid (Gq w.heap.size r.l.length r.iC r.iA r.ids (w.alloc (.cells r.cells 32)) (Rh r) (hr.fr f0 zr) (by omega))
 unfold En at k ⊢
 clear bg g2 h
 generalize r.cells=CS at*
 generalize Am r.ids=IS at*
 go_enter Tryz.func22,Tryz.ntmps22
 go_wp2_with (fail)
 refine k.out.mono ?_
 rintro _ w1 ⟨A,c,rfl,o1,f1⟩
 go_wp2
 go_ret
 exact ⟨A,c,rfl,o1.lower f0.size,f0.trans f1 zr⟩
def Cg (ids:List Id) (d:Int) (k:Nat):Int:=(ids.take k).foldl (fun n x=>if x.b==d then max n x.s else n) 0
theorem Rj {ids:List Id} {d:Int} {k:Nat} {x:Id} (h:ids[k]? =some x):Cg ids d (k+1)=if x.b==d then max (Cg ids d k) x.s else Cg ids d k:=by
 unfold Cg
 rw [Ea h,List.foldl_append]
 rfl
theorem Rk {ids:List Id} {d m:Int} (hm:0≤m) (h:∀x∈ids,x.s≤m) (k:Nat):0≤Cg ids d k∧Cg ids d k≤m:=by
 induction k with
 |zero=>exact ⟨Al9 _,hm⟩
 |succ k ih=>
  cases hx:ids[k]? with
  |none=>
   have:Cg ids d (k+1)=Cg ids d k:=by
    unfold Cg
    rw [Al4 (by have:=List.getElem?_eq_none_iff.1 hx;omega),Al4 (by have:=List.getElem?_eq_none_iff.1 hx;omega)]
   rw [this]
   exact ih
  |some x=>
   rw [Rj hx]
   have:=h x (Am4 hx)
   split<;>omega
theorem Ac2 (g:Array Value) (B n c:Nat) (A:Option Addr) (ids:List Id) (d:Int) (w:World) (hn:Hid (ids.length=n)) (hr:Rd w B 3 A n (ids.flatMap Id.cells)) (hnm:n≤1000000) (hs:∀x∈ids,x.s≤2147483647):
  Calls Tryz.prog 51 #[.agg g,.slice A n c,.int .i64 d] w fun e w'=>e=.returned (.int .i64 (Cg ids d n+1))∧Fr Non w w':=by
 have f0:Fr Non w (w.alloc (.cells g 32)):=(Fr.refl Non w).alloc _
 have hr0:=hr.fr f0 zr
 have hbd:=Lib.hid (fun k=>Rk (ids:=ids) (d:=d) (m:=2147483647) (by omega) hs k)
 clear hs hr
 go_enter Tryz.func51,Tryz.ntmps51
 go_wp2
 generalize w.alloc (.cells g 32)=w0 at*
 go_loopw [7,8] (fun m v wr=>∃k:Nat,v=.int .i64 (k:Int)∧m=.int .i64 (Cg ids d k)∧k≤n∧Fr Non w0 wr) (fun _ v _=>n-(intOf v).toNat)
 case atStart=>exact ⟨0,rfl,rfl,by omega,Fr.refl _ _⟩
 case round=>
  obtain ⟨k,rfl,rfl,hk,hf⟩:=hrel
  obtain ⟨b1,b2⟩:=hbd.out k
  by_cases hlt:k<n
  ·
   obtain ⟨y,hy⟩:∃y,ids[k]? =some y:=⟨_,Al1 (by rw [hn.out];exact hlt)⟩
   obtain ⟨b,off,rfl,hbB,k0,k1,k2⟩:=Id.at (hr0.fr hf zr) hy
   have hsn:=Lib.hid (Rj (d:=d) hy)
   clear hy
   have i1:(0:Int)≤k:=by omega
   have i2:(k:Int)<n:=by omega
   have i3:(k:Int).toNat=k:=by omega
   rcases zb (y.b==d) with he|he
   ·
    have hsn':Hid (Cg ids d (k+1)=max (Cg ids d k) y.s):=by show _=_;rw [hsn.out,he];rfl
    clear hsn
    generalize Cg ids d k=M at*
    go_wp2
    all_goals
     go_roundw
     case rel=>exact ⟨k+1,by go_num,by rw [hsn'.out];first|done|(congr 1<;>omega),by omega,hf⟩
     case measure=>simp [intOf];omega
   ·
    have hsn':Hid (Cg ids d (k+1)=Cg ids d k):=by show _=_;rw [hsn.out,he];rfl
    clear hsn
    generalize Cg ids d k=M at*
    go_wp2
    go_roundw
    case rel=>exact ⟨k+1,by go_num,by rw [hsn'.out],by omega,hf⟩
    case measure=>simp [intOf];omega
  ·
   obtain rfl:k=n:=by omega
   have e1:IntKind.i64.wrap (Cg ids d k+1)=Cg ids d k+1:=IntWalk.i64_in _ (by omega)
   obtain ⟨M,hM⟩:=Aa (Cg ids d k)
   rw [hM.out] at e1 b1 b2
   rw [hM.out]
   go_wp2
   go_ret
   exact ⟨by first|(rw [hM.out];rfl)|rfl,f0.trans hf zr⟩
theorem Ac3 (base:Nat) (r:RG) (B n c:Nat) (A:Option Addr) (ids:List Id) (w:World) (h:r.own w base) (hn:Hid (ids.length=n)) (hr:Rd w B 3 A n (ids.flatMap Id.cells)) (hnm:n≤1000000):
  Calls Tryz.prog 52 #[.agg r.cells,.slice A n c] w fun e w'=>e=.returned (.int .i64 (late r.l ids))∧Fr Non w w':=by
 have hfew:=h.few
 have bg:=Blk.new w 32 r.cells
 have f0:Fr Non w (w.alloc (.cells r.cells 32)):=(Fr.refl Non w).alloc _
 have g1:Hid (r.cells[1]? =some (.slice r.lA r.l.length r.lC)):=rfl
 have hr0:=hr.fr f0 zr
 have kp:=Lib.hid (fun (id:Id) (w':World) (hf:Fr Non w w')=>Hd base r id w' (h.non hf))
 have hat:Hid (∀i,i<r.l.length→∃(m:Pn) (b off:Nat),r.l[i]? =some m∧r.lA=some ⟨b,off,none⟩∧w.cell? ⟨b,off+i*27+3,none⟩=some (.int .i64 m.o.at_)):=by
  intro i hi
  obtain ⟨y,b,off,_,h1,_,h3,_,h4⟩:=h.xAt (Al1 hi)
  exact ⟨_,b,off,Al1 hi,h3,by rw [← h1];exact h4 3 (by omega) _ rfl⟩
 have hnn:Hid (∀k,0≤late r.l (ids.take k)):=by
  intro k
  have mono:∀(l:List Id) (t:Int),0≤t→0≤l.foldl (fun t id=>max t (Bn r.l id)) t:=by
   intro l
   induction l with
   |nil=>intro t ht;exact ht
   |cons y q ih=>intro t ht;exact ih _ (by dsimp only;omega)
  exact mono _ 0 (Al9 _)
 have hl:=Bd (P:=Tryz.prog) w.heap.size 32 Tryz.underlying32 rfl (cs:=r.cells) Dg
 have hplc:Hid (∀id i,Aw r.l id=(i:Int)→0≤(i:Int)→∀m,r.l[i.toNat]? =some m→Bn r.l id=m.o.at_):=by
  intro id i e hi m hm
  unfold Aw at e
  cases hp:plc r.l id with
  |none=>rw [hp] at e;dsimp only at e;omega
  |some p=>
   rw [hp] at e
   dsimp only at e
   exact Fv hp (by rw [show p=i.toNat by omega];exact hm)
 have hplt:Hid (∀id,-1≤Aw r.l id∧Aw r.l id<r.l.length):=by
  intro id
  unfold Aw
  cases hp:plc r.l id with
  |none=>exact ⟨Al9 _,by dsimp only;omega⟩
  |some p=>have:=Dl hp;exact ⟨by dsimp only;omega,by dsimp only;omega⟩
 have hneg:Hid (∀id,Aw r.l id<0→Bn r.l id=0):=by
  intro id e
  unfold Aw at e
  cases hp:plc r.l id with
  |none=>unfold Bn;rw [hp]
  |some p=>rw [hp] at e;dsimp only at e;omega
 clear h hr
 obtain ⟨N,hN⟩:=Aa r.l.length
 rw [hN.out] at g1 hat hplt hfew
 generalize r.lA=LA at*
 generalize r.lC=LC at*
 generalize r.cells=CS at*
 generalize r.l=l at*
 go_enter Tryz.func52,Tryz.ntmps52
 go_wp2
 generalize w.alloc (.cells CS 32)=w0 at*
 go_loopw [5,6] (fun m v wr=>∃k:Nat,v=.int .i64 (k:Int)∧m=.int .i64 (late l (ids.take k))∧k≤n∧Fr Non w0 wr) (fun _ v _=>n-(intOf v).toNat)
 case atStart=>exact ⟨0,rfl,rfl,by omega,Fr.refl _ _⟩
 case round=>
  obtain ⟨k,rfl,rfl,hk,hf⟩:=hrel
  by_cases hlt:k<n
  ·
   obtain ⟨y,hy⟩:∃y,ids[k]? =some y:=⟨_,Al1 (by rw [hn.out];exact hlt)⟩
   obtain ⟨b,off,rfl,hbB,k0,k1,k2⟩:=Id.at (hr0.fr hf zr) hy
   have hsn:=Lib.hid (Pa l ids k hy)
   have hnk:=hnn.out k
   clear hy
   have i1:(0:Int)≤k:=by omega
   have i2:(k:Int)<n:=by omega
   have i3:(k:Int).toNat=k:=by omega
   have bgk:=(bg.fr hf zq).drew
   have f0k:Fr Non w wr.drew:=(f0.trans hf zr).drew
   have K0:wr.drew.cell? ⟨b,off+k*3,none⟩=some (.int .i64 y.b):=k0
   have K1:wr.drew.cell? ⟨b,off+k*3+1,none⟩=some (.int .i64 y.s):=k1
   have K2:wr.drew.cell? ⟨b,off+k*3+2,none⟩=some (.int .u64 (y.u:Int)):=k2
   have kpy:=Lib.hid (kp.out y wr.drew f0k)
   obtain ⟨p1,p2⟩:=hplt.out y
   have hpy:=Lib.hid (hplc.out y)
   have hpn:=Lib.hid (hneg.out y)
   clear kp hplc hneg hplt
   generalize Aw l y=P at*
   go_upto_region 5 with (fail)
   have B0:=bgk;have K00:=K0;have K10:=K1;have K20:=K2;have ff0:=f0k
   clear bgk K0 K1 K2 k0 k1 k2 f0k
   refine wp_region_held_drew (S:=fun w'=>Blk w' w.heap.size 32 CS∧w'.cell? ⟨b,off+k*3,none⟩=some (.int .i64 y.b)∧w'.cell? ⟨b,off+k*3+1,none⟩=some (.int .i64 y.s)∧w'.cell? ⟨b,off+k*3+2,none⟩=some (.int .u64 (y.u:Int))) (by kernel_rfl) ⟨B0,K00,K10,K20⟩ (fun hHeld=> ?_)
   clear hHeld
   refine tkH 0 ⟨B0,K00,K10,K20⟩ (h:=tkH 1 ⟨B0,K00,K10,K20⟩ (h:=tkH 2 ⟨B0,K00,K10,K20⟩ (h:=tkH 3 ⟨B0,K00,K10,K20⟩ (h:=tkH 4 ⟨B0,K00,K10,K20⟩ (h:=?_)))))
   simp only [List.set]
   refine oG 5 (fun K hK=> ?_)
   go_simp
   go_wp2_with (go_at_call 37;(with_reducible refine (kpy.out).mono ?_);rintro _ v1 ⟨rfl,fq1⟩;have B1:=B0.fr fq1 zq;have K01:=fq1.cell K00 zq;have K11:=fq1.cell K10 zq;have K21:=fq1.cell K20 zq;have ff1:=ff0.trans fq1 zr)
   refine hK.out _ _ ⟨B1,K01,K11,K21⟩ (fun hZ=> ?_)
   clear hZ hK K
   try simp only [Ac,List.set]
   refine tkH 6 ⟨B1,K01,K11,K21⟩ (h:=?_)
   simp only [List.set]
   refine oD ?_
   go_simp
   clear kpy K00 K10 K20 K01 K11 K21 B0 ff0
   have hfk:Fr Non w0 v1:=hf.drew.trans fq1 zr
   clear hf fq1
   rcases Int.lt_or_le P 0 with hP|hP
   ·
    have t:decide (P≥0)=false:=decide_eq_false (by omega)
    have t2:decide (0≤P)=false:=decide_eq_false (by omega)
    have hn2:Hid (late l (ids.take k)=late l (ids.take (k+1))):=by
     show _=_
     rw [hsn.out,hpn.out hP]
     omega
    clear hsn hpn hpy hat hnn
    go_wp2
    go_roundw
    case rel=>exact ⟨k+1,by go_num,by rw [hn2.out],by omega,hfk⟩
    case measure=>simp [intOf];omega
   ·
    obtain ⟨p,rfl⟩:∃p:Nat,P=(p:Int):=⟨P.toNat,by omega⟩
    have t:decide ((p:Int)≥0)=true:=decide_eq_true (by omega)
    have t2:decide (0≤(p:Int))=true:=decide_eq_true (by omega)
    obtain ⟨m,b2,off2,hm,rfl,cm⟩:=hat.out p (by omega)
    have hn2:Hid (late l (ids.take (k+1))=max (late l (ids.take k)) m.o.at_):=by
     show _=_
     rw [hsn.out,hpy.out p rfl (by omega) m (by rw [Int.toNat_natCast];exact hm)]
    have c1:=(B1.cell 1).trans g1.out
    have cm1:=ff1.cell cm zq
    have p3:(p:Int)<N:=p2
    have p4:(p:Int).toNat=p:=by omega
    have p5:(0:Int)≤p:=by omega
    clear hsn hpn hpy hat hnn hm cm p1 p2 B1
    generalize m.o.at_=ma at*
    generalize late l (ids.take k)=lk at*
    go_wp2
    all_goals
     go_roundw
     case rel=>exact ⟨k+1,by go_num,by rw [hn2.out];first|done|(congr 1<;>omega),by omega,hfk⟩
     case measure=>simp [intOf];omega
  ·
   obtain rfl:k=n:=by omega
   have hR:Hid (late l (ids.take k)=late l ids):=by show _=_;rw [Al4 (by rw [hn.out];omega)]
   rw [hR.out]
   go_wp2
   go_ret
   exact ⟨rfl,f0.trans hf zr⟩
end Oq
namespace Oq
attribute [local go_sem] Al6 Al7
attribute [local go_sem ↓] Fe
def Cn (l:List Id) (w:World) (e:Ending) (w':World):Prop:=∃A c,e=.returned (.slice A l.length c)∧Own w' w.heap.size 38 3 A l.length c (l.flatMap Id.cells)∧Fr Non w w'
theorem Ac4 {l l':List Id} {k:Nat} {y z:Id} (h:l[k]? =some y) (h':l'[k]? =some z) (hk:l.take k=l'.take k) (e:y=z):l.take (k+1)=l'.take (k+1):=by
 rw [Am7,Am7,hk,h,h',e]
theorem Ac5 (B n c B' m c':Nat) (A A':Option Addr) (l l':List Id) (w:World) (hn:Hid (l.length=n)) (hm:Hid (l'.length=m)) (hr:Rd w B 3 A n (l.flatMap Id.cells)) (hr':Rd w B' 3 A' m (l'.flatMap Id.cells)) (hnm:n≤1000000) (R:Bool) (hR:R=true↔l=l'):
  Calls Tryz.prog 20 #[.slice A n c,.slice A' m c'] w (Af R w):=by
 have hRf:Hid (l≠l'→R=false):=fun h=>by cases R with|false=>rfl|true=>exact absurd (hR.1 rfl) h
 have hRt:Hid (l=l'→R=true):=hR.2
 clear hR
 by_cases hne:n=m
 ·
  subst hne
  have t:((n:Int) !=(n:Int))=false:=by simp
  go_enter Tryz.func20,Tryz.ntmps20
  go_wp2
  go_loopw [5] (fun v wr=>∃k:Nat,v=.int .i64 (k:Int)∧k≤n∧Hid (l.take k=l'.take k)∧Fr Non w wr) (fun v _=>n-(intOf v).toNat)
  case atStart=>exact ⟨0,rfl,by omega,rfl,Fr.refl _ _⟩
  case round=>
   obtain ⟨k,rfl,hk,hh,hf⟩:=hrel
   by_cases hlt:k<n
   ·
    obtain ⟨y,hy⟩:∃y,l[k]? =some y:=⟨_,Al1 (by rw [hn.out];exact hlt)⟩
    obtain ⟨z,hz⟩:∃y,l'[k]? =some y:=⟨_,Al1 (by rw [hm.out];exact hlt)⟩
    obtain ⟨b,off,rfl,hbB,k0,k1,k2⟩:=Id.at (hr.fr hf zr) hy
    obtain ⟨b',off',rfl,hbB',g0,g1,g2⟩:=Id.at (hr'.fr hf zr) hz
    have hcase:=Id.eq_iff y z
    have hsn:Hid (y=z→l.take (k+1)=l'.take (k+1)):=Ac4 hy hz hh.out
    have hno:Hid (y≠z→R=false):=fun e=>hRf.out (fun e'=>by rw [e',hz] at hy;injection hy with hy;exact e hy.symm)
    clear hy hz
    have i1:(0:Int)≤k:=by omega
    have i2:(k:Int)<n:=by omega
    have i3:(k:Int).toNat=k:=by omega
    have hm:=Jy
    by_cases he:Id.eq y z=true
    ·
     have hfin:=Lib.hid (hsn.out (hcase.1 he))
     clear hsn hno hcase
     go_wp2
     go_quiet (fail)
     go_wp2
     go_roundw
     case rel=>exact ⟨k+1,by go_num,by omega,hfin,hf.drewN _⟩
     case measure=>simp [intOf];omega
    ·
     have hfin:=Lib.hid (hno.out (fun e=>he (hcase.2 e)))
     have he:=Am6 _▸he
     clear hsn hno hcase
     go_wp2
     go_quiet (fail)
     go_wp2
     go_ret
     exact ⟨by rw [hfin.out];rfl,hf.drewN _⟩
   ·
    obtain rfl:k=n:=by omega
    have hfin:Hid (R=true):=by
     have h:=hh.out
     rw [Al4 (by rw [hn.out];omega),Al4 (by rw [hm.out];omega)] at h
     exact hRt.out h
    go_wp2
    go_ret
    exact ⟨by rw [hfin.out];rfl,hf⟩
 ·
  have t:((n:Int) !=(m:Int))=true:=by simp;omega
  have hfin:Hid (R=false):=hRf.out (fun e=>hne (by rw [← hn.out,← hm.out,e]))
  go_enter Tryz.func20,Tryz.ntmps20
  go_wp2
  go_ret
  exact ⟨by rw [hfin.out];rfl,Fr.refl _ _⟩
end Oq
namespace Oq
attribute [local go_sem] Al6 Al7
attribute [local go_sem ↓] Ew
def Bi (l:List Pn) (p:Nat→Bool) (k:Nat):List Id:=(List.range k).filterMap (fun i=>if p i then l[i]?.map Pn.id else none)
theorem Rl (l:List Pn) (p:Nat→Bool) (k:Nat) {n:Pn} (h:l[k]? =some n):Bi l p (k+1)=Bi l p k++(if p k then [n.id] else []):=by
 unfold Bi
 rw [List.range_succ,List.filterMap_append]
 congr 1
 cases hp:p k<;>simp [hp,h]
theorem Lz (l:List Pn) (p:Nat→Bool) (k:Nat):(Bi l p k).length≤k:=by
 unfold Bi
 have h:=List.length_filterMap_le (fun i=>if p i then l[i]?.map Pn.id else none) (List.range k)
 simpa using h
theorem E3 (l:List Id):(Am l).length=l.length:=(Da l).length_eq
theorem Ac6 {l:List Pn} {id:Id} (h:Aw l id<0) (q:Nat):upB l id q=false:=by
 unfold Aw at h
 unfold upB
 cases hp:plc l id with
 |none=>rfl
 |some p=>rw [hp] at h;dsimp only at h;omega
theorem Ac7 {l:List Pn} {id:Id} {p:Nat} {m:Pn} (h:Aw l id=(p:Int)) (hm:l[p]? =some m) (q:Nat):upB l id q=m.ps q:=by
 unfold Aw at h
 unfold upB
 cases hp:plc l id with
 |none=>rw [hp] at h;dsimp only at h;omega
 |some i=>
  rw [hp] at h
  dsimp only at h ⊢
  have e:i=p:=by omega
  subst e
  rw [hm]
  rfl
theorem Rm (l:List Pn) (id:Id): -1≤Aw l id∧Aw l id<l.length:=by
 unfold Aw
 cases hp:plc l id with
 |none=>exact ⟨Al9 _,by dsimp only;omega⟩
 |some p=>have:=Dl hp;exact ⟨by dsimp only;omega,by dsimp only;omega⟩
theorem RG.own.inAt {w:World} {base:Nat} {r:RG} (h:r.own w base) {p:Nat} (hp:p<r.l.length):
  ∃(m:Pn) (A2:Option Addr) (c2 b off:Nat),r.l[p]? =some m∧r.nA=some ⟨b,off,none⟩∧w.cell? ⟨b,off+p,none⟩=some (.slice A2 r.l.length c2)∧
   ∀i,i<r.l.length→∃b2 off2,A2=some ⟨b2,off2,none⟩∧w.cell? ⟨b2,off2+i,none⟩=some (.bool (m.ps i)):=by
 obtain ⟨x,b,off,h1,h2,h3,_,h4⟩:=h.nAt (Al1 hp)
 have hlen:x.bs.length=r.l.length:=by rw [h1,Fw]
 have h4':w.cell? ⟨b,off+p,none⟩=some (.slice x.A x.bs.length x.c):=h4
 rw [hlen] at h4'
 refine ⟨_,x.A,x.c,b,off,Al1 hp,h3,h4',fun i hi=> ?_⟩
 have hrd:Rd w w.heap.size 1 x.A x.bs.length (x.bs.map Value.bool):=h2.sl.rd
 obtain ⟨b2,off2,u,e1,_,e2,e3⟩:=hrd.at (k:=i) (by omega)
 rw [Al5,h1,Pe hi] at e2
 injection e2 with e2
 subst e2
 exact ⟨b2,off2,e1,e3⟩
theorem RG.own.idAt {w:World} {base:Nat} {r:RG} (h:r.own w base) {i:Nat} (hi:i<r.l.length):
  ∃(m:Pn) (b off:Nat),r.l[i]? =some m∧r.iA=some ⟨b,off,none⟩∧w.cell? ⟨b,off+i*3,none⟩=some (.int .i64 m.id.b)∧w.cell? ⟨b,off+i*3+1,none⟩=some (.int .i64 m.id.s)∧w.cell? ⟨b,off+i*3+2,none⟩=some (.int .u64 (m.id.u:Int)):=by
 obtain ⟨b,off,h1,_,h2,h3,h4⟩:=Id.at h.rdIds (Rg (Al1 hi))
 exact ⟨_,b,off,Al1 hi,h1,h2,h3,h4⟩
theorem Rn (base:Nat) (r:RG) (B n c:Nat) (A:Option Addr) (ids:List Id) (w:World) (h:r.own w base) (hn:Hid (ids.length=n)) (hr:Rd w B 3 A n (ids.flatMap Id.cells)) (hnm:n≤1000000):
  Calls Tryz.prog 47 #[.agg r.cells,.slice A n c] w (Cn (Am (Bi r.l (Ao r.l ids) r.l.length)) w):=by
 have hfew:=h.few
 have bg:=Blk.new w 32 r.cells
 have f0:Fr Non w (w.alloc (.cells r.cells 32)):=(Fr.refl Non w).alloc _
 have g1:Hid (r.cells[1]? =some (.slice r.lA r.l.length r.lC)):=rfl
 have g2:Hid (r.cells[2]? =some (.slice r.iA r.l.length r.iC)):=rfl
 have g4:Hid (r.cells[4]? =some (.slice r.nA r.l.length r.nC)):=rfl
 have kp:=Lib.hid (fun (id:Id) (w':World) (hf:Fr Non w w')=>Hd base r id w' (h.non hf))
 have hl:=Bd (P:=Tryz.prog) w.heap.size 32 Tryz.underlying32 rfl (cs:=r.cells) Dg
 have hin:=Lib.hid (fun (p:Nat) (hp:p<r.l.length)=>h.inAt hp)
 have hid:=Lib.hid (fun (p:Nat) (hp:p<r.l.length)=>h.idAt hp)
 have hplt:Hid (∀id,-1≤Aw r.l id∧Aw r.l id<r.l.length):=fun id=>Rm r.l id
 have hupn:Hid (∀id,Aw r.l id<0→∀q,upB r.l id q=false):=fun id h q=>Ac6 h q
 have hupp:Hid (∀id (p:Nat) m,Aw r.l id=(p:Int)→r.l[p]? =some m→∀q,upB r.l id q=m.ps q):=fun id p m h1 h2 q=>Ac7 h1 h2 q
 have hpk:Hid (∀k m,r.l[k]? =some m→Bi r.l (Ao r.l ids) (k+1)=Bi r.l (Ao r.l ids) k++(if Ao r.l ids k then [m.id] else [])):=fun k m hm=>Rl r.l _ k hm
 have hpl:Hid (∀k,(Bi r.l (Ao r.l ids) k).length≤k):=fun k=>Lz _ _ k
 have hab:Hid (∀k y,ids[k]? =some y→Ao r.l (ids.take (k+1))=fun q=>Ao r.l (ids.take k) q||upB r.l y q):=fun k y hy=>O9 r.l ids k hy
 clear h
 generalize r.lA=LA at*
 generalize r.lC=LC at*
 generalize r.iA=IA at*
 generalize r.iC=IC at*
 generalize r.nA=NA at*
 generalize r.nC=NC at*
 generalize r.cells=CS at*
 generalize r.l=l at*
 obtain ⟨N,hN⟩:=Aa l.length
 rw [hN.out] at g1 g2 g4 hin hid hplt hfew ⊢
 go_enter Tryz.func47,Tryz.ntmps47
 go_upto_region 1 with (fail)
 generalize w.alloc (.cells CS 32)=w0 at*
 go_wp2
 go_loopw [5,6] (fun s v wr=>∃(i:Nat) (Ax:Option Addr) (cx:Nat) (xs:List Id),v=.int .i64 (i:Int)∧s=.slice Ax xs.length cx∧i≤N∧Hid (xs=Bi l (Ao l ids) i)∧Own wr w0.heap.size 38 3 Ax xs.length cx (xs.flatMap Id.cells)∧Fr Non w0 wr) (fun _ v _=>N-(intOf v).toNat)
 case atStart=>exact ⟨0,none,0,[],rfl,rfl,by omega,rfl,Own.nil _ _ _ _,Fr.refl _ _⟩
 case round=>
  obtain ⟨i,Ax,cx,xs,rfl,rfl,hi,hxs,hown,hf⟩:=hrel
  have hfw:Fr Non w wr:=f0.trans hf zr
  have q1:=((bg.fr hf zq).cell 1).trans g1.out
  have hrow:=hown.row
  have hxl:xs.length≤i:=by rw [hxs.out];exact hpl.out i
  by_cases hlt:i<N
  ·
   have j1:(0:Int)≤i:=by omega
   have j2:(i:Int)<N:=by omega
   have j3:(i:Int).toNat=i:=by omega
   obtain ⟨wo,hwo⟩:∃wo:World,wo=wr:=⟨_,rfl⟩
   subst hwo
   go_wp2
   clear q1
   go_loopw [7,8] (fun s v wi=>∃k:Nat,v=.int .i64 (k:Int)∧s=.bool (Ao l (ids.take k) i)∧k≤n∧Fr Non wo wi) (fun _ v _=>n-(intOf v).toNat)
   case atStart=>exact ⟨0,rfl,rfl,by omega,Fr.refl _ _⟩
   case round=>
    obtain ⟨k,rfl,rfl,hk,hfi⟩:=hrel
    have hf1:Fr Non w0 wr:=hf.trans hfi zr
    have hf2:Fr Non w wr:=f0.trans hf1 zr
    by_cases hkn:k<n
    ·
     obtain ⟨y,hy⟩:∃y,ids[k]? =some y:=⟨_,Al1 (by rw [hn.out];exact hkn)⟩
     obtain ⟨b,off,rfl,hbB,k0,k1,k2⟩:=Id.at (hr.fr hf2 zr) hy
     have i1:(0:Int)≤k:=by omega
     have i2:(k:Int)<n:=by omega
     have i3:(k:Int).toNat=k:=by omega
     have hsn:Hid (Ao l (ids.take (k+1)) i=(Ao l (ids.take k) i||upB l y i)):=by show _=_;rw [hab.out k y hy]
     have kpy:=Lib.hid (kp.out y wr.drew hf2.drew)
     obtain ⟨p1,p2⟩:=hplt.out y
     have hun:Hid (Aw l y<0→upB l y i=false):=fun e=>hupn.out y e i
     have hup:Hid (∀(p:Nat) m,Aw l y=(p:Int)→l[p]? =some m→upB l y i=m.ps i):=fun p m h1 h2=>hupp.out y p m h1 h2 i
     have B0:=(bg.fr hf1 zq).drew
     have K00:wr.drew.cell? ⟨b,off+k*3,none⟩=some (.int .i64 y.b):=k0
     have K10:wr.drew.cell? ⟨b,off+k*3+1,none⟩=some (.int .i64 y.s):=k1
     have K20:wr.drew.cell? ⟨b,off+k*3+2,none⟩=some (.int .u64 (y.u:Int)):=k2
     have ff0:Fr Non w wr.drew:=hf2.drew
     clear hy kp hplt hupn hupp hab hpk hpl k0 k1 k2 hid
     obtain ⟨a1,ha1⟩:=Aa (Ao l (ids.take (k+1)) i)
     rw [ha1.out] at hsn
     generalize Ao l (ids.take k) i=a0 at*
     generalize upB l y i=up at*
     generalize Aw l y=P at*
     go_upto_region 9 with (fail)
     refine wp_region_held_drew (S:=fun w'=>Blk w' w.heap.size 32 CS∧w'.cell? ⟨b,off+k*3,none⟩=some (.int .i64 y.b)∧w'.cell? ⟨b,off+k*3+1,none⟩=some (.int .i64 y.s)∧w'.cell? ⟨b,off+k*3+2,none⟩=some (.int .u64 (y.u:Int))) (by kernel_rfl) ⟨B0,K00,K10,K20⟩ (fun hHeld=> ?_)
     clear hHeld
     refine tkH 0 ⟨B0,K00,K10,K20⟩ (h:=tkH 1 ⟨B0,K00,K10,K20⟩ (h:=tkH 2 ⟨B0,K00,K10,K20⟩ (h:=tkH 3 ⟨B0,K00,K10,K20⟩ (h:=tkH 4 ⟨B0,K00,K10,K20⟩ (h:=?_)))))
     simp only [List.set]
     refine oG 5 (fun K hK=> ?_)
     go_simp
     go_wp2_with (go_at_call 37;(with_reducible refine (kpy.out).mono ?_);rintro _ v1 ⟨rfl,fq1⟩;have B1:=B0.fr fq1 zq;have K01:=fq1.cell K00 zq;have K11:=fq1.cell K10 zq;have K21:=fq1.cell K20 zq;have ff1:=ff0.trans fq1 zr)
     refine hK.out _ _ ⟨B1,K01,K11,K21⟩ (fun hZ=> ?_)
     clear hZ hK K
     try simp only [Ac,List.set]
     refine tkH 6 ⟨B1,K01,K11,K21⟩ (h:=?_)
     simp only [List.set]
     refine oD ?_
     go_simp
     clear kpy K00 K10 K20 K01 K11 K21 B0 ff0
     have hfz:Fr Non wo v1:=hfi.drew.trans fq1 zr
     have q4:=(B1.cell 4).trans g4.out
     clear hfi fq1 B1
     cases a0
     case true=>
      have hsn':Hid (a1=true):=by show _=_;rw [hsn.out];rfl
      clear hsn hun hup hin
      go_wp2
      go_roundw
      case rel=>exact ⟨k+1,by go_num,by rw [ha1.out,hsn'.out],by omega,hfz⟩
      case measure=>simp [intOf];omega
     case false=>
      rcases Int.lt_or_le P 0 with hP|hP
      ·
       have t:decide (P≥0)=false:=decide_eq_false (by omega)
       have t2:decide (0≤P)=false:=decide_eq_false (by omega)
       have hsn':Hid (a1=false):=by show _=_;rw [hsn.out,hun.out hP];rfl
       clear hsn hun hup hin
       go_wp2
       go_roundw
       case rel=>exact ⟨k+1,by go_num,by rw [ha1.out,hsn'.out],by omega,hfz⟩
       case measure=>simp [intOf];omega
      ·
       obtain ⟨p,rfl⟩:∃p:Nat,P=(p:Int):=⟨P.toNat,by omega⟩
       have t:decide ((p:Int)≥0)=true:=decide_eq_true (by omega)
       have t2:decide (0≤(p:Int))=true:=decide_eq_true (by omega)
       obtain ⟨m,A2,c2,b2,off2,hm,rfl,cm,hrow2⟩:=hin.out p (by omega)
       obtain ⟨b3,off3,rfl,cm2⟩:=hrow2 i hlt
       have hsn':Hid (a1=m.ps i):=by show _=_;rw [hsn.out,hup.out p m rfl hm];rfl
       have cm1:=ff1.cell cm zq
       have cm3:=ff1.cell cm2 zq
       have p3:(p:Int)<N:=p2
       have p4:(p:Int).toNat=p:=by omega
       have p5:(0:Int)≤p:=by omega
       clear hsn hun hup hin hm cm cm2 p1 p2 hrow2
       generalize m.ps i=mi at*
       go_wp2
       all_goals
        go_roundw
        case rel=>exact ⟨k+1,by go_num,by rw [ha1.out,hsn'.out],by omega,hfz⟩
        case measure=>simp [intOf];omega
    ·
     obtain rfl:k=n:=by omega
     have hR:Hid (Ao l (ids.take k) i=Ao l ids i):=by show _=_;rw [Al4 (by rw [hn.out];omega)]
     obtain ⟨m,b2,off2,hm,rfl,d0,d1,d2⟩:=hid.out i hlt
     have hpki:=Lib.hid (hpk.out i m hm)
     have q2:=((bg.fr hf1 zq).cell 2).trans g2.out
     have e0:=hf2.cell d0 zq
     have e1:=hf2.cell d1 zq
     have e2:=hf2.cell d2 zq
     have O1:=hown.fr hfi zr
     rw [hR.out]
     clear hm hpk hpl hab hupn hupp hplt hin hid kp d0 d1 d2 hfi
     generalize Ao l ids i=ai at*
     generalize m.id=z at*
     cases ai
     case true=>
      have hxs':Hid (xs++[z]=Bi l (Ao l ids) (i+1)):=by show _=_;rw [hpki.out,← hxs.out];rfl
      have own3:=O1.alloc (.cells z.V 38)
      have fr3:=hf1.alloc (.cells z.V 38)
      have hnb:=Blk.new wr 38 z.V
      have hs2:=hf1.size
      clear hpki hxs hr bg
      go_wp2_with (at_builtin;go_loud (refine Bb (base:=w0.heap.size) (.tmp 46) (.tmp 52) 28 rfl rfl rfl rfl C9 own3 (Rd.blk (n:=1) (size:=3) hnb rfl) (by simp [Value.oneCell']) (by omega) (by omega) (by rw [Am0];omega) ?_);intro A2 c2' w4 own4 fr4 hat4)
      have own5:Own w4 w0.heap.size 38 3 A2 (xs++[z]).length c2' ((xs++[z]).flatMap Id.cells):=by
       rw [Am3,List.flatMap_append]
       exact own4
      have fr5:Fr Non w0 w4:=fr3.trans fr4 (fun j hj e=>by have h5:=(hrow j e).1;omega)
      go_roundw
      case rel=>exact ⟨i+1,A2,c2',xs++[z],by go_num,by rw [Am3];rfl,by omega,hxs',own5,fr5⟩
      case measure=>simp [intOf];omega
     case false=>
      have hxs':Hid (xs=Bi l (Ao l ids) (i+1)):=by show _=_;rw [hpki.out,← hxs.out];simp
      clear hpki hxs hr bg
      go_wp2
      go_roundw
      case rel=>exact ⟨i+1,Ax,cx,xs,by go_num,rfl,by omega,hxs',O1,hf1⟩
      case measure=>simp [intOf];omega
  ·
   obtain rfl:i=N:=by omega
   have ks:=Lib.hid (Gq wr.heap.size xs.length cx Ax xs wr rfl hown.rd (by omega))
   have hfin:Hid (∀e w',En xs xs.length wr e w'→Cn (Am (Bi l (Ao l ids) i)) w e w'):=by
    rintro e w' ⟨A5,c5,h1,h2,h3⟩
    have hl5:(Am xs).length=xs.length:=E3 xs
    rw [← hxs.out]
    exact ⟨A5,c5,by rw [hl5];exact h1,by rw [hl5];exact h2.lower hfw.size,hfw.trans h3 zr⟩
   generalize Cn (Am (Bi l (Ao l ids) i)) w=POST at*
   clear hxs hown hr bg hpk hpl hab hupn hupp hplt hin hid kp
   go_wp2_with (go_at_call 50;(with_reducible refine (ks.out).mono ?_);rintro _ w7 ⟨A5,c5,rfl,h5,h6⟩;have hdone:=Lib.hid (hfin.out _ _ ⟨A5,c5,rfl,h5,h6⟩);clear ks hfin h5 h6)
   first|exact hdone.out|(go_ret;exact hdone.out)
end Oq
end
end Go.Proofs.YtafonabghnogaaaGreatDoor
