/-
  Contracts of the functions that the claim's statement reaches, walked one by one (part 13).
  Conditions: as each theorem says.
-/
import Derived.Great.BuildSlice
import Derived.Shelf.SlGeneric
import Derived.Test.YtafonabghnogaaaGreatDoorGpM1
import Derived.Test.YtafonabghnogaaaGreatDoorGpM2
import Derived.Test.YtafonabghnogaaaGreatDoorGpM4
import Derived.Test.YtafonabghnogaaaGreatDoorGpM6
import Derived.Test.YtafonabghnogaaaGreatDoorGpM7
import Derived.Test.YtafonabghnogaaaGreatDoorGpM12
set_option maxRecDepth 100000
set_option maxHeartbeats 16000000
open Bool renaming not_false→Ak8,not_true→Ak9,not_eq_true→Al8
open Int renaming le_refl→Al1
open List renaming getElem?_eq_getElem→Ak2,not_mem_nil→Ak4,getElem?_map→Ak5,take_of_length_le→Ak6,length_map→Ak7,mem_of_getElem?→Al5,getElem?_of_mem→Al7,take_add_one→Al9
open Nat renaming zero_le→Ak3,lt_trans→Al0,le_of_lt→Al3,le_refl→Al4
open Option renaming map_map→Al6
open Go.World renaming size_alloc→Al2
namespace Go.Proofs.YtafonabghnogaaaGreatDoor
section
open Go.RowKit
theorem Own.block {w:World} {base size n c:Nat} {t:TypeId} {A:Option Addr} {xs:List Value} (h:Own w base t size A n c xs) {k:Nat} (hk:Ac A=some k):∃cs fr,w.heap[k]? =some (.cells cs t fr):=by
 rcases h.2 with ⟨hv,_⟩|⟨g,cap,cur,hv,_,hg,_⟩
 ·
  injection hv with hA
  subst hA
  cases hk
 ·
  injection hv with hA
  subst hA
  injection hk with hk
  subst hk
  exact ⟨_,_,hg⟩
theorem Own.keepT {S:Nat→Prop} {w w':World} {base size n c:Nat} {t:TypeId} {A:Option Addr} {xs:List Value} {P:TypeId→Prop} (h:Own w base t size A n c xs) (hf:Fr S w w') (hS:Oq.Types S w P) (ht:¬P t):Own w' base t size A n c xs:=
 h.fr hf (fun k hk e=>by
  obtain ⟨cs,fr,hb⟩:=h.block hk
  exact ht (hS _ _ _ _ hb e))
namespace Oq
theorem MapAt.ismap {w:World} {b m:Nat} {f:Id→Option Nat} (h:MapAt w b m f):∀cs t fr,w.heap[b]? ≠some (.cells cs t fr):=by
 intro cs t fr e
 obtain ⟨n,D,ho,_⟩:=h
 obtain ⟨es,clock,hbl,_⟩:=ho
 rw [e] at hbl
 cases hbl
theorem Eb {o:Op} (h:o.ok):o.name.ok:=by
 have hu:=Lb o
 unfold Op.name
 generalize o.id=u at*
 exact ⟨h.by_,h.sq,hu⟩
def Gty (t:TypeId):Prop:=t=123∨t=118
theorem GAt.types {w:World} {base:Nat} {g:Gph} (h:GAt w base g):Types g.own w Gty:=by
 intro k cs t fr hk e
 rcases e with e|e|e
 ·
  subst e
  have h1:=h.blk
  unfold Blk at h1
  rw [hk] at h1
  injection h1 with h1
  injection h1 with _ h2
  exact .inl h2
 ·
  subst e
  exact absurd hk (h.map.ismap _ _ _)
 · exact .inr (Types.row h.own k cs t fr hk e)
theorem Zy {l:List Ag} {n:Ag} (h:Af l n.id=none) (y:Id):(if y=n.id then some l.length else Af l y)=Af (l++[n]) y:=by
 unfold Af at*
 rw [List.findIdx?_append]
 by_cases e:y=n.id
 ·
  subst e
  rw [if_pos rfl,h]
  simp
 ·
  rw [if_neg e]
  have h2:([n].findIdx? (fun m=>decide (m.id=y)))=none:=by
   simp [List.findIdx?_cons,show ¬n.id=y from fun e2=>e e2.symm]
  rw [h2]
  cases l.findIdx? (fun m=>decide (m.id=y))<;>simp
theorem Rb:SlT Tryz.prog 121 118 (.agg zN) 35 392:=⟨Tryz.underlying121,by kernel_rfl,rfl,by decide⟩
theorem Zz {w w4 wd w5 w6 w7 wa:World} {base:Nat} {g:Gph} {x y:OpL} {gs n0 n1 n2 n3 lv:Nat} {A':Option Addr} {c':Nat} (hg:GAt w base g) (D:DSt w w4 base g x y gs n0 n1 n2 n3 lv wa) (herr:Ah g.cards g.pns x.op=0)
  (fd:Fr Non w4 wd) (hm:MapAt w5 g.mb (g.mm+1) (fun z=>if z=x.op.name then some g.nodes.length else Af g.nodes z)) (f5:Fr (One g.mb) wd w5) (f6:Fr Non w5 w6)
  (own7:Own w7 base 118 35 A' (g.nodes.length+1) c' (g.nodes.flatMap Ag.cells++(⟨y,x.op.name,n0,n1,n2,n3,lv⟩:Ag).cells)) (f7:Fr (fun k=>Ac g.nA=some k) w6 w7) (hat:Ac A'=Ac g.nA∨Ac A'=some w6.heap.size):
  AddPost base g x.op w (.returned (.int .i64 0)) (w7.setCell ⟨g.gb,2,none⟩ (.slice A' (g.nodes.length+1) c')):=by
 obtain ⟨N,hN⟩:∃N:Ag,N=⟨y,x.op.name,n0,n1,n2,n3,lv⟩:=⟨_,rfl⟩
 have hnid:N.id=x.op.name:=by rw [hN]
 have hws:N.ws=[n0,n1,n2,n3]:=by rw [hN];rfl
 rw [← hN] at own7
 have hlt:=hg.blk.lt
 have hbase:base≤w.heap.size:=Nat.le_trans hg.gbase (Al3 hlt)
 have frd:Fr Non w wd:=D.fr.trans fd zr
 have hgd:=hg.fr frd
 have ty:=hg.types
 have hgbmb:g.gb≠g.mb:=fun e=>by
  have h1:=hg.blk
  unfold Blk at h1
  rw [e] at h1
  exact hg.map.ismap _ _ _ h1
 have hrmb:¬Ac g.nA=some g.mb:=fun e=>by
  obtain ⟨cs,fr,hb⟩:=hg.own.block e
  exact hg.map.ismap _ _ _ hb
 have hrgb:¬Ac g.nA=some g.gb:=hg.own.ne hg.blk (by decide)
 have toEnd:∀{w0:World},Fr Non w0 wd→Fr g.own w0 (w7.setCell ⟨g.gb,2,none⟩ (.slice A' (g.nodes.length+1) c')):=by
  intro w0 h0
  have F5:Fr g.own w0 w5:=(Fr.of_non h0 g.own).trans f5 (fun i _ e=> .inr (.inl e))
  have F6:Fr g.own w0 w6:=F5.trans f6 (fun _ _ e=>e.elim)
  have F7:Fr g.own w0 w7:=F6.trans f7 (fun i _ e=> .inr (.inr e))
  exact F7.setCell (p:=⟨g.gb,2,none⟩) (fun _=> .inl rfl) _
 have F8:=toEnd frd
 have F48:=toEnd fd
 have ty4:=(hg.fr D.fr).types
 have b7:Blk w7 g.gb 123 #[.slice g.cA g.cards.length g.cC,.map (some g.mb),.slice g.nA g.nodes.length g.nC]:=
  ((hgd.blk.fr f5 (fun e=>hgbmb e)).fr f6 zq).fr f7 hrgb
 have hA'gb:Ac A'≠some g.gb:=own7.ne b7 (by decide)
 have fz:Fr (One g.gb) w7 (w7.setCell ⟨g.gb,2,none⟩ (.slice A' (g.nodes.length+1) c')):=(Fr.refl _ _).setOne 2 _
 have m8:=(((hm.fr f6 zq).fr f7 hrmb).fr fz (fun e=>hgbmb e.symm))
 have hnew:Af g.nodes N.id=none:=by
  rw [hnid,← Ea]
  exact D.A.new
 have hmap:MapAt (w7.setCell ⟨g.gb,2,none⟩ (.slice A' (g.nodes.length+1) c')) g.mb (g.mm+1) (Af (g.nodes++[N])):=by
  have e:(fun z=>if z=x.op.name then some g.nodes.length else Af g.nodes z)=Af (g.nodes++[N]):=by
   funext z
   rw [← hnid]
   exact Zy hnew z
  rw [← e]
  exact m8
 have hlen:(g.nodes++[N]).length=g.nodes.length+1:=by simp
 have hlev:lv≤g.nodes.length+1:=by
  rw [D.hlv]
  refine O7 g.pns g.nodes.length (fun n hn=> ?_) _
  obtain ⟨m,hm,rfl⟩:=List.mem_map.1 hn
  exact hg.levs m hm
 have hNset:Ak N.ws N.past:=by
  rw [hws]
  refine ⟨rfl,D.set.u64,fun n hn=> ?_⟩
  unfold Ag.past
  rw [hws]
 have hNps:N.past=Ai g.pns x.op.past:=by
  have h1:Ak N.ws (fun q=>Aq g.pns x.op.past q||Bt g.pns x.op.past q):=by rw [hws];exact D.set
  rw [We h1]
  rfl
 have hok':N.okAt (w7.setCell ⟨g.gb,2,none⟩ (.slice A' (g.nodes.length+1) c')) base:=by
  refine ⟨?_,?_,?_,hNset⟩
  ·
   rw [hN]
   exact (D.yown.keepP F48 ty4 (by unfold Gty;decide) (by unfold Gty;decide) (by unfold Gty;decide) (by unfold Gty;decide) (by unfold Gty;decide) (by unfold Gty;decide) (by unfold Gty;decide)).lower hbase
  ·
   have h1:N.x.op=x.op:=by rw [hN];exact D.A.yop
   rw [h1]
   exact D.A.hok
  ·
   rw [hnid]
   exact Eb D.A.hok
 refine ⟨by rw [herr],.inr ⟨herr,⟨g.gb,g.mb,g.mm+1,g.cA,g.cC,g.cards,A',c',g.nodes++[N]⟩,?_,rfl,rfl,rfl,?_,F8,?_⟩⟩
 ·
  refine ⟨?_,hg.pos,hg.gbase,hg.mbase,hg.crow.keepT F8 ty (by unfold Gty;decide),?_,?_,?_,?_,hg.cfew,hg.cok,hmap,?_⟩
  ·
   show Blk _ g.gb _ #[.slice g.cA g.cards.length g.cC,.map (some g.mb),.slice A' (g.nodes++[N]).length c']
   rw [hlen]
   exact b7.set 2 _
  ·
   show Own _ base 118 35 A' (g.nodes++[N]).length c' ((g.nodes++[N]).flatMap Ag.cells)
   rw [hlen,List.flatMap_append,List.flatMap_cons,List.flatMap_nil,List.append_nil]
   exact own7.setOne hA'gb
  ·
   show (g.nodes++[N]).length≤200
   have:=D.A.few
   omega
  ·
   show g.mm+1≤(g.nodes++[N]).length
   have:=hg.mfew
   omega
  ·
   intro n hn
   show n.lev≤(g.nodes++[N]).length
   rw [hlen]
   rcases List.mem_append.1 hn with hn|hn
   ·
    have:=hg.levs n hn
    omega
   ·
    obtain rfl:=List.mem_singleton.1 hn
    rw [hN]
    exact hlev
  ·
   intro n hn
   rcases List.mem_append.1 hn with hn|hn
   ·
    have k:=hg.node n hn
    exact ⟨k.own.keepP F8 ty (by unfold Gty;decide) (by unfold Gty;decide) (by unfold Gty;decide) (by unfold Gty;decide) (by unfold Gty;decide) (by unfold Gty;decide) (by unfold Gty;decide),k.ok,k.id,k.set⟩
   ·
    obtain rfl:=List.mem_singleton.1 hn
    exact hok'
 ·
  show (g.nodes++[N]).map Ag.pn=g.nodes.map Ag.pn++[Av g.pns x.op]
  rw [List.map_append,List.map_cons,List.map_nil]
  congr 2
  unfold Ag.pn Av
  rw [hNps,hnid]
  congr 1
  ·
   rw [hN]
   exact D.A.yop
  ·
   rw [hN]
   exact D.hlv
 ·
  intro k hk e
  rcases e with e|e|e
  · exact .inl e
  · exact .inr (.inl e)
  ·
   refine .inr (.inr ?_)
   have e':Ac A'=some k:=e
   rcases hat with h1|h1
   ·
    rw [← h1]
    exact e'
   ·
    rw [h1] at e'
    injection e' with e'
    have:=(frd.size)
    have h5:=f5.size
    have h6:=f6.size
    omega
end Oq
end
section
open Go.RowKit
attribute [local go_sem ↓] Go.wp_at_zero Go.wp_at_succ
namespace Oq
attribute [local go_sem] Ak8 Ak9
theorem Z0 {l:List Pn} {p:Nat→Bool} {d:Int} {k:Nat} {n:Pn} (h:l[k]? =some n):Bl l p d (k+1)=if (n.o.by_==d&&p k)=true then max (Bl l p d k) n.o.sq else Bl l p d k:=by
 show (match l[k]? with|some n=>if (n.o.by_==d&&p k)=true then max (Bl l p d k) n.o.sq else Bl l p d k|none=>Bl l p d k)=_
 rw [h]
theorem Rc {l:List Pn} {p:Nat→Bool} {d s:Int} {k:Nat} {n:Pn} (h:l[k]? =some n):Bz l p d s (k+1)=(Bz l p d s k||(n.o.by_==d&&p k&&n.o.sq==s-1)):=by
 show (match l[k]? with|some n=>Bz l p d s k||(n.o.by_==d&&p k&&n.o.sq==s-1)|none=>Bz l p d s k)=_
 rw [h]
theorem Z1 {o:Op} (h:o.chk=0):1≤o.sq∧o.sq≤2147483647:=by
 have h1:=(chk_ok.1 h).2.2.1
 unfold Op.numsB at h1
 simp only [Bool.and_eq_true] at h1
 have h2:=h1.1.1.2
 unfold inR at h2
 simpa using h2
def bsS (t:TypeId) (len:Nat) (parts:Array (Nat × Value)):=Instr.buildSlice t len parts
theorem Z2 (n:Nat) (p:Array (Nat × Value)):Instr.buildSlice 121 n p=bsS 121 n p:=rfl
theorem Z3 (N:Ag) (w:World):(bsS 121 1 #[(0,.agg N.cells.toArray)]).run Tryz.prog w=.ok (.slice (some ⟨w.heap.size,0,none⟩) 1 1) (w.alloc (.cells N.cells.toArray 118)):=by
 obtain ⟨ht,hinfo,_⟩:=Rb
 obtain ⟨i,hi,hz,hs,_⟩:=info_parts hinfo
 exact run_buildSlice w 121 118 1 _ _ i _ ht hi hz (by rw [hs];decide) (by rw [hs];decide) (by rw [hs];kernel_rfl)
theorem Z4 {P:Program} {o:Oper} {a:Act} {K:Act→World→Prop} {Q:Exit→Act→World→Prop} {w:World} (s x:Operand) (t:TypeId)
  (ho:o.op=.call {callee:=.builtin .append,args:=#[s,x],argTypes:=#[t,t]})
  {base size n c:Nat} {e:TypeId} {A:Option Addr} {xs:List Value} {z:Value} {bytes m cx B:Nat} {Ax:Option Addr} {news:List Value}
  (hs:a.eval s=.slice A n c) (hx:a.eval x=.slice Ax m cx)
  (hT:SlT P t e z size bytes) (h:Own w base e size A n c xs) (hr:Rd w B size Ax m news)
  (h1:∀u∈news,u.oneCell'=true) (hbytes:(n+m)*bytes≤140737488355328) (hmax:n+m≤9223372036854775807) (hbase:base≤w.heap.size)
  (hk:∀A' c' w',Own w' base e size A' (n+m) c' (xs++news)→Fr (fun k=>Ac A=some k) w w'→(Ac A'=Ac A∨Ac A'=some w.heap.size)→
   K (a.put o.dst (.slice A' (n+m) c')) w'):Oper.wp P o a w K Q:=by
 obtain ⟨A',c',w',hrun,h2,h3,h4⟩:=Gi (P:=P) (ty:=o.type) (cx:=cx) hT h hr h1 hbytes hmax hbase
 unfold Oper.wp execOp
 simp only [ho,resolve,invoke,builtin,Sem.run_bind,Sem.run_pure,Result.andThen_ok,List.map_toArray,List.map_cons,List.map_nil,hs,hx,hrun]
 exact hk A' c' w' h2 h3 h4
attribute [local go_sem ↓] Il Im Z2
theorem Z5:addD.1:=by
 conv=>whnf
 intro r5 r7 r8 r9 r10 r14 r19 r20 r21 r22 r23 r24 r25 r26 r27 r28 r29 r30 r31 r32 r33 r34 r35 r36 r37 r38 r39 r40 r41 r42 r43 r44 r45 r46 r47 r48 r49 r50 r51 r52 r53 r54 r55 r56 r57 r58 r59 r60 r61 r62 r63 r64 r65 r66 r67 r68 r69 r70 r71 r72 r152 r153 r154 r155 r156 r157 r158 r159 r160 r161 r162 r163 r164 r165 r166 r167 r168 r169 r170 r171 r172 r173 r174 r175 r176 r177 r178 r179 r180 r181 r182 r183 r184 r185 r186 r187 r188 r189 r190 r191 r192 r193 r194 r195 r196 r197 r198 r199 r200 r201 r202 r203 r204 r205 r206 r207 r208 r209 r210 r211 r212 r213 r214 r215 r216 r217 r218 r219 r220 r221 r222 r223 r224 r225 r226 r227 r228 r229 r230 r231 r232 r233 r15 r16 r84 r85 r86 r87 r88 r89 r90 r91 r92 r93 r94 r95 r96 r97 r98 r99 r100 r101 r102 r103 r104 r105 r106 r107 r108 r109 r110 r111 r112 r113 r114 r115 r116 r117 r118 r119 r120 r121 r122 r123 r124 r125 r18 r128 r129 r130 r131 r132 r133 r134 r135 r136 r137 r138 r139 r140 r141 r142 r143 r144 r145 r146 base g x w y gs m w6 A6 c6 n w7 pb wv a0 a1 a2 a3 lv lt p0 p1 p2 p3 bb w1 wq b0 b1 b2 b3 cl w3 w4 K n0 n1 n2 n3 hK D
 have hg:=D.A.hg
 have hsq:=Z1 D.A.chk
 replace hsq:1≤x.sq∧x.sq≤2147483647:=hsq
 have hfew:=D.A.few
 have hD:=Lib.hid D
 have hPs:Hid (∀i,i<256→Ai g.pns x.op.past i=(Aq g.pns x.op.past i||Bt g.pns x.op.past i)):=fun i hi=>by
  unfold Ai
  simp [hi]
 have hpl:Hid (g.pns.length=g.nodes.length):=by show _=_;unfold Gph.pns;rw [Ak7]
 obtain ⟨CX,hCX⟩:=Ab x.cells
 have e0:Hid (CX[0]? =some (.int .i64 x.by_)):=by show _=_;rw [← hCX.out];rfl
 have e1:Hid (CX[1]? =some (.int .i64 x.sq)):=by show _=_;rw [← hCX.out];rfl
 have hx:Hid (∀wz,Fr Non w4 wz→wz.cell? ⟨w.heap.size,0,none⟩=some (.int .i64 x.by_)∧wz.cell? ⟨w.heap.size,1,none⟩=some (.int .i64 x.sq)):=fun wz hf=>by
  have h:=D.bx.fr hf zq
  have h0:=h.cell 0
  have h1:=h.cell 1
  rw [hCX.out] at h0 h1
  rw [e0.out] at h0
  rw [e1.out] at h1
  exact ⟨h0,h1⟩
 have hgb:Hid (∀wz,Fr Non w4 wz→wz.cell? ⟨g.gb,2,none⟩=some (.slice g.nA g.nodes.length g.nC)):=fun wz hf=>((hg.fr D.fr).fr hf).blk.cell 2
 rw [hCX.out]
 obtain ⟨nn,hnn⟩:=Ab g.nodes.length
 rw [hnn.out] at hgb hfew hpl
 have c2:=hgb.out w4 (Fr.refl _ _)
 clear D
 go_wp2_with (fail)
 clear c2
 go_loopw [19,20,158] (fun tl ta v wr=>∃(i:Nat) (la:Int) (ah:Bool),tl=.int .i64 la∧ta=.bool ah∧v=.int .i64 (i:Int)∧i≤nn∧Hid (la=Bl g.pns (Ai g.pns x.op.past) x.by_ i)∧Hid (ah=Bz g.pns (Ai g.pns x.op.past) x.by_ x.sq i)∧Fr Non w4 wr) (fun _ _ v _=>nn-(intOf v).toNat)
 case atStart=>exact ⟨0,0,false,rfl,rfl,rfl,by omega,rfl,rfl,Fr.refl _ _⟩
 case round=>
  obtain ⟨i,la,ah,rfl,rfl,rfl,hi,hla,hah,hf⟩:=hrel
  by_cases hin:i<nn
  ·
   as_aux_lemma=>
   have i1:(0:Int)≤i:=by omega
   have i2:(i:Int)<nn:=by omega
   have i3:(i:Int).toNat=i:=by omega
   have i4:IntKind.i64.wrap (i:Int)=i:=IntWalk.i64_in _ (by omega)
   obtain ⟨nd,hnd⟩:∃z,g.nodes[i]? =some z:=⟨_,Ak2 (by rw [hnn.out];exact hin)⟩
   have hpn:g.pns[i]? =some nd.pn:=by unfold Gph.pns;rw [Ak5,hnd];rfl
   obtain ⟨bn,offn,hAn,hbnl,hcell⟩:=hg.cell hnd
   have hl1:=Lib.hid (Z0 (p:=Ai g.pns x.op.past) (d:=x.by_) hpn)
   have ha1:=Lib.hid (Rc (p:=Ai g.pns x.op.past) (d:=x.by_) (s:=x.sq) hpn)
   have hnf:Hid (∀wz,Fr Non w4 wz→wz.cell? ⟨bn,offn+i*35,none⟩=some (.int .i64 nd.x.by_)∧wz.cell? ⟨bn,offn+i*35+1,none⟩=some (.int .i64 nd.x.sq)):=fun wz hf=>by
    have f1:=hD.out.fr.trans hf zr
    exact ⟨f1.cell (hcell 0 (by omega) _ rfl) zq,f1.cell (hcell 1 (by omega) _ rfl) zq⟩
   have kh:=Lib.hid (fun wz (hz:Fr Non w4 wz)=>Gj gs 30 [n0,n1,n2,n3] _ i wz hD.out.set (fun j hj=>by
    rw [(hD.out.bn.fr hz zq).cell]
    match j,hj with
    |0,_=>rfl
    |1,_=>rfl
    |2,_=>rfl
    |3,_=>rfl) (by omega))
   obtain ⟨mi,hmi⟩:=Ab (Aq g.pns x.op.past i||Bt g.pns x.op.past i)
   have hpi:Hid (Ai g.pns x.op.past i=mi):=(hPs.out i (by omega)).trans hmi.out
   rw [hmi.out] at kh
   have c2:=hgb.out wr hf
   rw [hAn] at c2
   obtain ⟨b0',s0'⟩:=hnf.out wr hf
   obtain ⟨x0,x1⟩:=hx.out wr hf
   have hwrap:IntKind.i64.wrap (x.sq-1)=x.sq-1:=IntWalk.i64_in _ (by omega)
   rw [hpi.out] at hl1 ha1
   replace hl1:Hid (Bl g.pns (Ai g.pns x.op.past) x.by_ (i+1)=if (nd.x.by_==x.by_&&mi)=true then max (Bl g.pns (Ai g.pns x.op.past) x.by_ i) nd.x.sq else Bl g.pns (Ai g.pns x.op.past) x.by_ i):=hl1
   replace ha1:Hid (Bz g.pns (Ai g.pns x.op.past) x.by_ x.sq (i+1)=(Bz g.pns (Ai g.pns x.op.past) x.by_ x.sq i||(nd.x.by_==x.by_&&mi&&nd.x.sq==x.sq-1))):=ha1
   clear hpn hnd hcell hAn hPs hmi hpi hgb hg hD
   rcases zb (nd.x.by_==x.by_) with hq|hq
   ·
    rw [hq] at hl1 ha1
    go_upto_region 46 with (fail)
    clear c2
    refine wp_region_held_drew (S:=(fun w'=>w'.cell? ⟨bn,offn+i*35,none⟩=some (.int .i64 nd.x.by_)∧w'.cell? ⟨w.heap.size,0,none⟩=some (.int .i64 x.by_))) (by kernel_rfl) ⟨b0',x0⟩ (fun hHeld=> ?_)
    clear hHeld
    have hS:(fun w'=>w'.cell? ⟨bn,offn+i*35,none⟩=some (.int .i64 nd.x.by_)∧w'.cell? ⟨w.heap.size,0,none⟩=some (.int .i64 x.by_)) wr.drew:=⟨b0',x0⟩
    replace hf:=hf.drew
    refine tkH 0 hS (h:=tkH 1 hS (h:=tkH 2 hS (h:=tkH 3 hS (h:=tkH 4 hS (h:=tkH 5 hS (h:=tkH 6 hS (h:=tkH 7 hS (h:=tkH 8 hS (h:=tkH 9 hS (h:=tkH 10 hS (h:=?_)))))))))))
    simp only [List.set]
    refine oG 11 (fun K hK=> ?_)
    go_simp
    go_wp2_with (go_at_call 73;(with_reducible refine (kh.out _ hf).mono ?_);rintro _ _ ⟨rfl,rfl⟩)
    refine hK.out _ _ hS (fun hZ=> ?_)
    clear hZ hK K kh
    try simp only [Ad,List.set]
    refine tkH 12 hS (h:=?_)
    simp only [List.set]
    refine oD ?_
    go_simp
    obtain ⟨b0',s0'⟩:=hnf.out wr.drew hf
    obtain ⟨x0,x1⟩:=hx.out wr.drew hf
    clear hS hnf b0' x0
    cases mi
    ·
     have hl2:Hid (la=Bl g.pns (Ai g.pns x.op.past) x.by_ (i+1)):=by show _=_;rw [hl1.out,← hla.out];rfl
     have ha2:Hid (ah=Bz g.pns (Ai g.pns x.op.past) x.by_ x.sq (i+1)):=by show _=_;rw [ha1.out,← hah.out];simp
     clear hl1 ha1 hla hah s0' x1
     go_wp2_with (fail)
     go_roundw
     case rel=>exact ⟨i+1,la,ah,rfl,rfl,by go_num,by omega,hl2,ha2,hf⟩
     case measure=>simp [intOf];omega
    ·
     have hl2:Hid (max la nd.x.sq=Bl g.pns (Ai g.pns x.op.past) x.by_ (i+1)):=by show _=_;rw [hl1.out,← hla.out];rfl
     have ha2:Hid ((ah||nd.x.sq==x.sq-1)=Bz g.pns (Ai g.pns x.op.past) x.by_ x.sq (i+1)):=by show _=_;rw [ha1.out,← hah.out];simp
     clear hl1 ha1 hla hah
     go_upto_region 48 with (fail)
     generalize wr.drew=w5 at*
     cases ah
     case false=>
      refine wp_region_held_drew (S:=(fun w'=>w'.cell? ⟨bn,offn+i*35+1,none⟩=some (.int .i64 nd.x.sq)∧w'.cell? ⟨w.heap.size,1,none⟩=some (.int .i64 x.sq))) (by kernel_rfl) ⟨s0',x1⟩ (fun hHeld=> ?_)
      clear hHeld
      have hS:(fun w'=>w'.cell? ⟨bn,offn+i*35+1,none⟩=some (.int .i64 nd.x.sq)∧w'.cell? ⟨w.heap.size,1,none⟩=some (.int .i64 x.sq)) w5.drew:=⟨s0',x1⟩
      replace hf:=hf.drew
      refine tkH 0 hS (h:=tkH 1 hS (h:=tkH 2 hS (h:=tkH 3 hS (h:=tkH 4 hS (h:=tkH 5 hS (h:=tkH 6 hS (h:=tkH 7 hS (h:=tkH 8 hS (h:=tkH 9 hS (h:=tkH 10 hS (h:=tkH 11 hS (h:=?_))))))))))))
      simp only [List.set]
      refine tkH 12 hS (h:=?_)
      simp only [List.set]
      refine oD ?_
      go_simp
      go_wp2_with (fail)
      go_roundw
      case rel=>exact ⟨i+1,max la nd.x.sq,_,rfl,rfl,by go_num,by omega,hl2,ha2,hf⟩
      case measure=>simp [intOf];omega
     case true=>
      refine wp_region_held_drew (S:=(fun w'=>w'.cell? ⟨bn,offn+i*35+1,none⟩=some (.int .i64 nd.x.sq)∧w'.cell? ⟨w.heap.size,1,none⟩=some (.int .i64 x.sq))) (by kernel_rfl) ⟨s0',x1⟩ (fun hHeld=> ?_)
      clear hHeld
      have hS:(fun w'=>w'.cell? ⟨bn,offn+i*35+1,none⟩=some (.int .i64 nd.x.sq)∧w'.cell? ⟨w.heap.size,1,none⟩=some (.int .i64 x.sq)) w5.drew:=⟨s0',x1⟩
      replace hf:=hf.drew
      refine tkH 0 hS (h:=tkH 1 hS (h:=skH 2 hS (h:=skH 3 hS (h:=skH 4 hS (h:=skH 5 hS (h:=skH 6 hS (h:=skH 7 hS (h:=skH 8 hS (h:=skH 9 hS (h:=skH 10 hS (h:=tkH 11 hS (h:=?_))))))))))))
      simp only [List.set]
      refine tkH 12 hS (h:=?_)
      simp only [List.set]
      refine oD ?_
      go_simp
      go_wp2_with (fail)
      go_roundw
      case rel=>exact ⟨i+1,max la nd.x.sq,_,rfl,rfl,by go_num,by omega,hl2,ha2,hf⟩
      case measure=>simp [intOf];omega
   ·
    rw [hq] at hl1 ha1
    have hl2:Hid (la=Bl g.pns (Ai g.pns x.op.past) x.by_ (i+1)):=by show _=_;rw [hl1.out,← hla.out];rfl
    have ha2:Hid (ah=Bz g.pns (Ai g.pns x.op.past) x.by_ x.sq (i+1)):=by show _=_;rw [ha1.out,← hah.out];simp
    clear hl1 ha1 hla hah
    go_upto_region 46 with (fail)
    clear c2
    refine wp_region_held_drew (S:=(fun w'=>w'.cell? ⟨bn,offn+i*35,none⟩=some (.int .i64 nd.x.by_)∧w'.cell? ⟨w.heap.size,0,none⟩=some (.int .i64 x.by_))) (by kernel_rfl) ⟨b0',x0⟩ (fun hHeld=> ?_)
    clear hHeld
    have hS:(fun w'=>w'.cell? ⟨bn,offn+i*35,none⟩=some (.int .i64 nd.x.by_)∧w'.cell? ⟨w.heap.size,0,none⟩=some (.int .i64 x.by_)) wr.drew:=⟨b0',x0⟩
    replace hf:=hf.drew
    refine tkH 0 hS (h:=tkH 1 hS (h:=tkH 2 hS (h:=tkH 3 hS (h:=tkH 4 hS (h:=tkH 5 hS (h:=tkH 6 hS (h:=tkH 7 hS (h:=tkH 8 hS (h:=skH 9 hS (h:=skH 10 hS (h:=skH 11 hS (h:=?_))))))))))))
    simp only [List.set]
    refine tkH 12 hS (h:=?_)
    simp only [List.set]
    refine oD ?_
    go_simp
    clear hS
    go_wp2_with (fail)
    go_roundw
    case rel=>exact ⟨i+1,la,ah,rfl,rfl,by go_num,by omega,hl2,ha2,hf⟩
    case measure=>simp [intOf];omega
  ·
   obtain rfl:nn=i:=by omega
   have hbad:Hid (Ay g.pns (Ai g.pns x.op.past) x.op=(decide (x.sq≤la)||(decide (1<x.sq)&& !ah))):=by
    show _=_
    unfold Ay
    rw [hpl.out]
    rw [show x.op.by_=x.by_ from rfl,show x.op.sq=x.sq from rfl,← hla.out,← hah.out]
   obtain ⟨x0,x1⟩:=hx.out wr hf
   obtain ⟨bad,hbv⟩:=Ab (decide (x.sq≤la)||(decide (1<x.sq)&& !ah))
   clear hla hah hi hin hx hgb hpl hPs x0
   go_upto_region 50 with (fail)
   go_cut [212] from 200 to 212 (fun s wc=>wr=wc∧s=.bool bad)
   case first=>
    clear hD hbad hg
    as_aux_lemma=>
    rcases zb (decide (x.sq≤la)) with t1|t1
    ·
     have hv:Hid (true=bad):=by show _=_;rw [← hbv.out,t1];rfl
     go_wp2_with (fail)
     go_meet
     exact ⟨rfl,congrArg Value.bool hv.out⟩
    ·
     rcases zb (decide (1<x.sq)) with t2|t2
     ·
      have hv:Hid ((!ah)=bad):=by show _=_;rw [← hbv.out,t1,t2];rfl
      go_wp2_with (fail)
      go_meet
      exact ⟨rfl,congrArg Value.bool hv.out⟩
     ·
      have hv:Hid (false=bad):=by show _=_;rw [← hbv.out,t1,t2];rfl
      go_wp2_with (fail)
      go_meet
      exact ⟨rfl,congrArg Value.bool hv.out⟩
   case rest=>
   obtain ⟨rfl,rfl⟩:=hcut
   clear x1
   rw [hbv.out] at hbad
   cases bad
   case true=>
    have fin:=Lib.hid (AddPost.bad (base:=base) (w':=wr) (by rw [hD.out.err,if_pos hbad.out]) (by decide) (hD.out.fr.trans hf zr))
    clear hD hbad hbv hg hf
    as_aux_lemma=>
    go_wp2_with (fail)
    go_ret
    exact fin.out
   case false=>
    have herr:Ah g.cards g.pns x.op=0:=by rw [hD.out.err,hbad.out];rfl
    have D:=hD.out
    obtain ⟨nid,hnid⟩:=Ab x.op.name
    have hnok:nid.ok:=by rw [← hnid.out];exact Eb D.A.hok
    have frr:Fr Non w wr:=D.fr.trans hf zr
    have hgr:=hg.fr frr
    have bnr:=D.bn.fr hf zq
    rw [hnid.out] at bnr
    have s27:wr.cell? ⟨gs,27,none⟩=some (.int .i64 nid.b):=bnr.cell 27
    have s28:wr.cell? ⟨gs,28,none⟩=some (.int .i64 nid.s):=bnr.cell 28
    have s29:wr.cell? ⟨gs,29,none⟩=some (.int .u64 (nid.u:Int)):=bnr.cell 29
    have c1:wr.cell? ⟨g.gb,1,none⟩=some (.map (some g.mb)):=hgr.blk.cell 1
    have c2:wr.cell? ⟨g.gb,2,none⟩=some (.slice g.nA nn g.nC):=by rw [← hnn.out];exact hgr.blk.cell 2
    obtain ⟨w5,hrun,hm5,hg5⟩:=MapAt.store (hgr.map.fr ((Fr.refl Non wr).drew) zq) nid hnok nn (by omega) (by have:=hg.mfew;have:=hg.few;omega)
    have f5:Fr (One g.mb) wr.drew w5:=(Fr.refl (One g.mb) wr.drew).grown hg5 (fun k hk _=>by injection hk with hk;exact hk.symm)
    have hrun':(Instr.mapUpdate 120 (.map (some g.mb)) (.agg nid.V) (.int .i64 (nn:Int))).run Tryz.prog wr.drew=.ok () w5:=hrun
    clear hrun hg5 hbad hbv
    go_upto_region 52 with (fail)
    refine Cz (S:=(fun w'=>w'.cell? ⟨gs,27,none⟩=some (.int .i64 nid.b)∧w'.cell? ⟨gs,28,none⟩=some (.int .i64 nid.s)∧w'.cell? ⟨gs,29,none⟩=some (.int .u64 (nid.u:Int))∧w'.cell? ⟨g.gb,1,none⟩=some (.map (some g.mb))∧w'.cell? ⟨g.gb,2,none⟩=some (.slice g.nA nn g.nC))) 11 (by kernel_rfl) ?_
    have hS:(fun w'=>w'.cell? ⟨gs,27,none⟩=some (.int .i64 nid.b)∧w'.cell? ⟨gs,28,none⟩=some (.int .i64 nid.s)∧w'.cell? ⟨gs,29,none⟩=some (.int .u64 (nid.u:Int))∧w'.cell? ⟨g.gb,1,none⟩=some (.map (some g.mb))∧w'.cell? ⟨g.gb,2,none⟩=some (.slice g.nA nn g.nC)) wr.drew:=⟨s27,s28,s29,c1,c2⟩
    obtain ⟨wd,hwd⟩:=Ab wr.drew
    have fd:Fr Non w4 wd:=by rw [← hwd.out];exact hf.drew
    rw [hwd.out] at hS f5 hrun' ⊢
    refine tkG 0 hS (h:=tkG 1 hS (h:=tkG 2 hS (h:=tkG 3 hS (h:=tkG 4 hS (h:=tkG 5 hS (h:=tkG 6 hS (h:=tkG 7 hS (h:=tkG 8 hS (h:=tkG 9 hS (h:=tkG 10 hS (h:=?_)))))))))))
    simp only [List.set]
    refine Cq (by kernel_rfl) ?_
    refine oG 11 (fun K hK=> ?_)
    go_simp
    refine hK.out _ _ trivial (fun hZ=> ?_)
    clear hZ hK K
    try simp only [put_lit2,List.set]
    refine oD ?_
    go_simp
    clear hS hrun' s27 s28 s29 c1 c2 hgr bnr
    have frd:Fr Non w wd:=D.fr.trans fd zr
    have hgd:=hg.fr frd
    have hmbl:g.mb<w.heap.size:=hg.map.lt
    have hgsl:=D.lo1
    have hgbmb:g.gb≠g.mb:=fun e=>by
     have h1:=hg.blk
     unfold Blk at h1
     rw [e] at h1
     exact hg.map.ismap _ _ _ h1
    have hrmb:¬Ac g.nA=some g.mb:=fun e=>by
     obtain ⟨cs,fr,hb⟩:=hg.own.block e
     exact hg.map.ismap _ _ _ hb
    have hrgb:¬Ac g.nA=some g.gb:=hg.own.ne hg.blk (by decide)
    have hrgs:¬Ac g.nA=some gs:=fun e=>by have:=(hg.own.row _ e).2;omega
    have b5:=hgd.blk.fr f5 (fun e=>hgbmb e)
    have bn5:Blk w5 gs 118 (⟨y,nid,n0,n1,n2,n3,lv⟩:Ag).cells.toArray:=by
     have h1:=(D.bn.fr fd zq).fr f5 (fun e=>by have e':gs=g.mb:=e;omega)
     rw [hnid.out] at h1
     exact h1
    have own5:Own w5 base 118 35 g.nA nn g.nC (g.nodes.flatMap Ag.cells):=by
     rw [← hnn.out]
     exact hgd.own.fr f5 (fun k hk e=>by have e':k=g.mb:=e;subst e';exact hrmb hk)
    have c5:w5.cell? ⟨g.gb,2,none⟩=some (.slice g.nA nn g.nC):=by rw [← hnn.out];exact b5.cell 2
    have hin35:(Tryz.prog.info? 118).map (·.size)=some (⟨y,nid,n0,n1,n2,n3,lv⟩:Ag).cells.toArray.size:=by
     show _=some 35
     kernel_rfl
    have hlm:=Bb (P:=Tryz.prog) gs 118 Tryz.underlying118 rfl (cs:=(⟨y,nid,n0,n1,n2,n3,lv⟩:Ag).cells.toArray) hin35
    have hbs:=Z3 ⟨y,nid,n0,n1,n2,n3,lv⟩
    have hone:=Gu ⟨y,nid,n0,n1,n2,n3,lv⟩
    have hszN:(⟨y,nid,n0,n1,n2,n3,lv⟩:Ag).cells.length=35:=rfl
    have hfin:=Lib.hid (fun (A':Option Addr) (c':Nat) (w6 w7:World)=>Zz (w4:=w4) (wd:=wd) (w5:=w5) (w6:=w6) (w7:=w7) (A':=A') (c':=c') hg D herr fd)
    have hbase:base≤w.heap.size:=Nat.le_trans hg.gbase (Al3 hg.blk.lt)
    have h5s:=f5.size
    have h4s:=frd.size
    rw [hnid.out,hnn.out] at hfin
    clear hgd D herr hD hf
    go_upto_region 53 with (fail)
    refine Cz (S:=(fun w'=>w'.cell? ⟨g.gb,2,none⟩=some (.slice g.nA nn g.nC)∧Blk w' gs 118 (⟨y,nid,n0,n1,n2,n3,lv⟩:Ag).cells.toArray)) 10 (by kernel_rfl) ?_
    have hS:(fun w'=>w'.cell? ⟨g.gb,2,none⟩=some (.slice g.nA nn g.nC)∧Blk w' gs 118 (⟨y,nid,n0,n1,n2,n3,lv⟩:Ag).cells.toArray) w5.drew:=⟨c5,bn5⟩
    obtain ⟨we,hwe⟩:=Ab w5.drew
    have fe:Fr Non w5 we:=by rw [← hwe.out];exact (Fr.refl Non w5).drew
    have owne:=own5.fr fe zr
    have be:=b5.fr fe zq
    have hes:=fe.size
    rw [hwe.out] at hS ⊢
    refine tkG 0 hS (h:=tkG 1 hS (h:=tkG 2 hS (h:=tkG 3 hS (h:=tkG 4 hS (h:=tkG 5 hS (h:=?_))))))
    simp only [List.set]
    refine Bj 6 (by kernel_rfl) rfl (fun K hK=> ?_)
    go_simp
    have fa:Fr Non we (we.alloc (.cells (⟨y,nid,n0,n1,n2,n3,lv⟩:Ag).cells.toArray 118)):=(Fr.refl Non we).alloc _
    have hS6:(fun w'=>w'.cell? ⟨g.gb,2,none⟩=some (.slice g.nA nn g.nC)∧Blk w' gs 118 (⟨y,nid,n0,n1,n2,n3,lv⟩:Ag).cells.toArray) (we.alloc (.cells (⟨y,nid,n0,n1,n2,n3,lv⟩:Ag).cells.toArray 118)):=⟨fa.cell hS.1 zq,hS.2.fr fa zq⟩
    have own6:=owne.fr fa zr
    have hrd6:=Rd.blk (n:=1) (size:=35) (l:=(⟨y,nid,n0,n1,n2,n3,lv⟩:Ag).cells) (Blk.new we 118 (⟨y,nid,n0,n1,n2,n3,lv⟩:Ag).cells.toArray) (by rw [hszN])
    have b6:=be.fr fa zq
    have f6:=fe.trans fa zr
    refine hK.out _ _ hS6 (fun hZ=> ?_)
    clear hZ hK K
    try simp only [Ad,List.set]
    generalize we.alloc (.cells (⟨y,nid,n0,n1,n2,n3,lv⟩:Ag).cells.toArray 118)=w6 at*
    refine Bj 7 (by kernel_rfl) rfl (fun K hK=> ?_)
    refine Z4 (base:=base) (.tmp 228) (.tmp 230) 121 (by rfl) (by rfl) (by rfl) Rb own6 hrd6 (by intro u hu;exact (Array.all_eq_true'.1 hone) u (by simpa using hu)) (by omega) (by omega) (by have:=f6.size;omega) ?_
    intro A' c' w7 own7 f7 hat
    have hS7:(fun w'=>w'.cell? ⟨g.gb,2,none⟩=some (.slice g.nA nn g.nC)∧Blk w' gs 118 (⟨y,nid,n0,n1,n2,n3,lv⟩:Ag).cells.toArray) w7:=⟨f7.cell hS6.1 hrgb,hS6.2.fr f7 hrgs⟩
    have b7:=b6.fr f7 hrgb
    refine hK.out _ _ hS7 (fun hZ=> ?_)
    clear hZ hK K
    try simp only [Ad,List.set]
    refine Bj 8 (by kernel_rfl) rfl (fun K hK=> ?_)
    go_simp
    refine hK.out _ _ hS7 (fun hZ=> ?_)
    clear hZ hK K
    try simp only [Ad,List.set]
    refine tkG 9 hS7 (h:=?_)
    simp only [List.set]
    have fin:=Lib.hid (hfin.out A' c' w6 w7 hm5 f5 f6 own7 f7 hat)
    have c7:w7.cell? ⟨g.gb,2,none⟩=some (.slice g.nA nn g.nC):=hS7.1
    have z7:w7.frozen? ⟨g.gb,2,none⟩=false:=b7.frozen 2
    refine Cq (by kernel_rfl) ?_
    refine oG 10 (fun K hK=> ?_)
    go_simp
    refine hK.out _ _ trivial (fun hZ=> ?_)
    clear hZ hK K
    try simp only [put_lit2,List.set]
    refine oD ?_
    go_simp
    clear hS hS6 hS7 own7 f7 hat b7 c7 z7 hfin hm5 f5 f6 own6 hrd6 b6 be owne fe hes hlm hbs hone
    go_wp2_with (fail)
    go_ret
    exact fin.out
theorem Ht (base:Nat) (g:Gph) (x:OpL) (w:World) (hg:GAt w base g) (hat:x.at w w.heap.size) (hok:x.op.ok) (hkn:KindsAt w):
  Calls Tryz.prog 17 #[.pointer (some ⟨g.gb,0,none⟩),.agg x.cells] w (AddPost base g x.op w):=
 addA.2 ⟨addB.2 ⟨addC.2 ⟨addD.2 ⟨Z5⟩⟩⟩⟩ base g x w hg hat hok hkn
end Oq
end
section
open Go.RowKit
namespace Oq
def sgn (o:Op):Op:={o with r:=Sg.r (sec Bc o.by_.toNat) o.bare,s:=Sg.s (sec Bc o.by_.toNat) o.bare}
theorem Ld (o:Op) (R S:Nat):({o with r:=R,s:=S}:Op).chk=o.chk:=rfl
theorem Le (o:Op) (R S:Nat):({o with r:=R,s:=S}:Op).bare=o.bare:=rfl
theorem Z6 (o:Op) (R S:Nat):({o with r:=R,s:=S}:Op).id=o.id:=by unfold Op.id;rw [Le]
theorem Lf (o:Op) (R S:Nat):({o with r:=R,s:=S}:Op).name=o.name:=by
 unfold Op.name
 rw [Z6]
theorem Z7 (l:List Pn) (p:Nat→Bool) (o:Op) (R S:Nat):Ay l p ({o with r:=R,s:=S}:Op)=Ay l p o:=rfl
theorem E1 (o:Op):∃R S,sgn o={o with r:=R,s:=S}∧Sg.check (Sg.pub (sec Bc o.by_.toNat)) o.bare R S=true:=
 ⟨_,_,rfl,Sg.takes _ _ (Al0 (Gp _ _) (by decide))⟩
theorem Fz (o:Op):(sgn o).name=o.name:=by
 obtain ⟨R,S,h,_⟩:=E1 o
 rw [h,Lf]
theorem Z8 (o:Op):(sgn o).chk=o.chk:=by
 obtain ⟨R,S,h,_⟩:=E1 o
 rw [h,Ld]
theorem Lg (o:Op):(sgn o).by_=o.by_:=by
 obtain ⟨R,S,h,_⟩:=E1 o
 rw [h]
theorem Re (o:Op):(sgn o).sq=o.sq:=by
 obtain ⟨R,S,h,_⟩:=E1 o
 rw [h]
theorem Lh (o:Op):(sgn o).at_=o.at_:=by
 obtain ⟨R,S,h,_⟩:=E1 o
 rw [h]
theorem Z9 (o:Op):(sgn o).past=o.past:=by
 obtain ⟨R,S,h,_⟩:=E1 o
 rw [h]
theorem Gx {cards:List Cd} {l:List Pn} {o:Op} {c:Cd} (h1:o.chk=0) (h2:plc l o.name=none) (h3:l.length<200) (h4:Bm cards o.by_=some c) (h5:c.s=Sg.pub (sec Bc o.by_.toNat)) (h6:o.kind≠1∨l=[])
  (h7:o.past.any (fun id=>(plc l id).isNone)=false) (h8:clash l o.past=false) (h9:late l o.past≤o.at_) (h10:Ay l (Ai l o.past) o=false):Ah cards l (sgn o)=0:=by
 obtain ⟨R,S,e,hc⟩:=E1 o
 rw [e]
 unfold Ah
 rw [Ld,Lf,h1,h2,if_neg (by simp),if_neg (by simp),if_neg (by omega)]
 rw [show ({o with r:=R,s:=S}:Op).by_=o.by_ from rfl,h4]
 dsimp only
 rw [Le,h5,hc,if_neg (by simp),if_neg (by rcases h6 with h|h<;>simp [h]),h7,if_neg (by simp),h8,if_neg (by simp;omega),Z7,h10]
 simp
theorem Aa0 {cards:List Cd} {l:List Pn} {o:Op} {c:Cd} (h1:o.chk=0) (h2:plc l o.name=none) (h3:l.length<200) (h4:Bm cards o.by_=some c) (h5:c.s=Sg.pub (sec Bc o.by_.toNat)) (h6:o.kind≠1∨l=[])
  (h7:o.past.any (fun id=>(plc l id).isNone)=true):Ah cards l (sgn o)=10:=by
 obtain ⟨R,S,e,hc⟩:=E1 o
 rw [e]
 unfold Ah
 rw [Ld,Lf,h1,h2,if_neg (by simp),if_neg (by simp),if_neg (by omega)]
 rw [show ({o with r:=R,s:=S}:Op).by_=o.by_ from rfl,h4]
 dsimp only
 rw [Le,h5,hc,if_neg (by simp),if_neg (by rcases h6 with h|h<;>simp [h]),h7,if_pos rfl]
theorem Aa1 {cards:List Cd} {l:List Pn} {o:Op} (h1:o.chk=0) (h2:(plc l o.name).isSome=true):Ah cards l o=5:=by
 unfold Ah
 rw [h1,if_neg (by simp),if_pos h2]
def Dt (b s a:Int) (past:List Id):Op:={base b s 8 a past [] with of:=⟨1,1,0⟩}
def Gy (b:Int):Op:={base b 1 1 0 [] [] with need:=0}
theorem Li {b s a:Int} {past:List Id} (hb:1≤b∧b≤12) (hs:1≤s∧s≤2147483647) (ha:0≤a∧a≤2147483647) (hp:past.length≤12∧(∀x∈past,x.named=true)∧Row past∧past≠[]):(Dt b s a past).chk=0:=
 Up (h:=⟨by omega,hb,hs,ha,⟨hp.1,hp.2.1,hp.2.2.1,by simp [hp.2.2.2]⟩,⟨by simp,by simp,.inl rfl⟩⟩) (Nu (x:=⟨1,1,0⟩) ⟨by decide,by decide⟩ ⟨by decide,by decide⟩ (by unfold FP;decide))
theorem Aa2 {b:Int} (hb:1≤b∧b≤12):(Gy b).chk=0:=
 Nw (h:=⟨by omega,hb,by omega,by omega,⟨by simp,by simp,List.Pairwise.nil,by simp⟩,⟨by simp,by simp,.inl rfl⟩⟩) (Dp (by omega))
theorem id_lt (o:Op):o.id<FP:=by unfold FP;exact Hs.of_lt _ _
theorem Aa3 {b s:Int} {u:Nat} (hb:1≤b∧b≤12) (hs:1≤s∧s≤2147483647) (hu:u<FP):(Id.mk b s u).named=true:=Nu hb hs hu
theorem Lj {o:Op} (hb:1≤o.by_∧o.by_≤12) (hs:1≤o.sq∧o.sq≤2147483647):o.name.named=true:=by
 unfold Op.name
 exact Aa3 hb hs (id_lt o)
end Oq
end
section
open Go.RowKit
attribute [local go_sem ↓] Go.wp_at_zero Go.wp_at_succ
namespace Oq
attribute [local go_sem ↓] Cf Ef
def Lk (b s a:Int) (l:List Id) (w:World) (e:Ending) (w':World):Prop:=∃y:OpL,e=.returned (.agg y.cells)∧y.op=sgn (Dt b s a (Am l))∧y.own w' w.heap.size∧Fr Non w w'
def erL (b s a:Int) (A:Option Addr) (c:Nat) (l:List Id):OpL:={OpL.zero with by_:=b,sq:=s,kind:=8,at_:=a,pastA:=A,pastC:=c,past:=l,of:=⟨1,1,0⟩}
theorem Rf (b s a:Int) (A:Option Addr) (c:Nat) (l:List Id):(erL b s a A c l).op=Dt b s a l:=rfl
theorem Ll (x:OpL) (o:Op) (h:x.op=o) (u:Nat) (hu:o.by_.toNat=u) (S:Nat) (hS:sec Bc u=S):({x with r:=Sg.r S x.op.bare,s:=Sg.s S x.op.bare}:OpL).op=sgn o:=by
 rw [Vz,h]
 unfold sgn
 rw [hu,hS]
theorem Ck:I64 0:=⟨by decide,by decide⟩
theorem I64_8:I64 8:=⟨by decide,by decide⟩
theorem I3:I64 1:=⟨by decide,by decide⟩
theorem I4 {b s a : Int} {L : List Id} (hb : 1 ≤ b ∧ b ≤ 12) (hs : 1 ≤ s ∧ s ≤ 2147483647) (ha : 0 ≤ a ∧ a ≤ 2147483647) (hl : L.length ≤ 1000 ∧ ∀ x ∈ L, x.ok) : (Dt b s a L).ok :=
  ⟨⟨by show _ ≤ b; omega, by show b ≤ _; omega⟩, ⟨by show _ ≤ s; omega, by show s ≤ _; omega⟩, I64_8, ⟨by show _ ≤ a; omega, by show a ≤ _; omega⟩, hl, Ck, Ck, Ck, Ck,
   ⟨Ak3 _, fun _ h => absurd h Ak4⟩, ⟨Ck, Ck, Eg⟩, Ck, Ak3 _, ⟨Ak3 _, fun _ h => absurd h Ak4⟩, ⟨I3, I3, Eg⟩,
   ⟨Ak3 _, fun _ h => absurd h Ak4⟩, Ck, Ck, ⟨Ak3 _, fun _ h => absurd h Ak4⟩, Eg, ⟨Ak3 _, fun _ h => absurd h Ak4⟩, Eg, Eg⟩
theorem Rg {b s a:Int} {A:Option Addr} {c:Nat} {l:List Id} {w:World} {base:Nat} (h:Own w base 38 3 A l.length c (l.flatMap Id.cells)):(erL b s a A c l).own w base:=
 ⟨RowAt.of_own h,RowAt.nil _ _ _ _,(fun _ h=>absurd h Ak4),RowAt.nil _ _ _ _,RowAt.nil _ _ _ _,RowAt.nil _ _ _ _,RowAt.nil _ _ _ _,RowAt.nil _ _ _ _,(fun _ h=>absurd h Ak4)⟩
theorem Lm {x:OpL} {w:World} {base:Nat} (o:x.own w base) (r s:Nat):({x with r:=r,s:=s}:OpL).own w base:=⟨o.past,o.path,o.nodes,o.body,o.refs,o.guards,o.boxes,o.hist,o.seals⟩
theorem Ln (b s a:Int) (B n c:Nat) (A:Option Addr) (l:List Id) (w:World) (hb:1≤b∧b≤12) (hs:1≤s∧s≤2147483647) (ha:0≤a∧a≤2147483647) (hn:Hid (l.length=n)) (hr:Rd w B 3 A n (l.flatMap Id.cells)) (hnm:n≤1000) (hok:∀x∈l,x.ok):
  Calls Tryz.prog 41 #[.int .i64 b,.int .i64 s,.int .i64 a,.slice A n c] w (Lk b s a l w):=by
 have hi:(Tryz.prog.info? 44).map (·.size)=some 27:=by kernel_rfl
 have hlS:(Am l).length=n:=(Dk l).length_eq.trans hn.out
 have hox:(Dt b s a (Am l)).ok:=I4 hb hs ha ⟨by omega,fun x hx=>hok x ((Dk l).subset hx)⟩
 have f0:Fr Non w (w.alloc (.cells zO 44)):=(Fr.refl Non w).alloc _
 have bz0:=Blk.new w 44 zO
 have kS:=Lib.hid (fun w' (h:Fr Non w w')=>Gm B n c A l w' hn (hr.fr h zr) (by omega))
 obtain ⟨u,hu⟩:∃u,b.toNat=u:=⟨_,rfl⟩
 have hu2:IntKind.u64.wrap b=(u:Int):=by rw [IntKind.wrap_u64];omega
 have kG:Hid (∀(A1:Option Addr) (c1:Nat) (w':World) (base:Nat),Own w' base 38 3 A1 n c1 ((Am l).flatMap Id.cells)→Calls Tryz.prog 15 #[.agg #[.int .i64 b,.int .i64 s,.int .i64 8,.int .i64 a,.slice A1 n c1,.int .i64 0,.int .i64 0,.int .i64 0,.int .i64 0,.slice none 0 0,.int .i64 0,.int .i64 0,.int .u64 0,.int .i64 0,.slice none 0 0,.slice none 0 0,.int .i64 1,.int .i64 1,.int .u64 0,.slice none 0 0,.int .i64 0,.int .i64 0,.slice none 0 0,.int .u64 0,.slice none 0 0,.int .u64 0,.int .u64 0]] w' fun r w''=>
   ∃y:OpL,r=.returned (.agg y.cells)∧y.op=sgn (Dt b s a (Am l))∧(∀(S:Nat→Prop) (wz:World),Fr S w' wz→(∀k,Ac A1=some k→¬S k)→y.own wz base)∧Fr Non w' w''):=by
  intro A1 c1 w' base ho
  rw [← hlS] at ho ⊢
  have hat:=(Rg (b:=b) (s:=s) (a:=a) ho).at
  have h:=Km (erL b s a A1 c1 (Am l)) u w' hu2 (by omega) hat (by rw [Rf];exact hox)
  refine Calls.mono h ?_
  rintro r w'' ⟨h1,h2⟩
  exact ⟨_,h1,Ll _ _ (Rf b s a A1 c1 (Am l)) u hu _ rfl,(fun S wz hf hs=>Lm (Rg (ho.fr hf hs)) _ _),h2⟩
 have hpost:Hid (∀(y:OpL) w',y.op=sgn (Dt b s a (Am l))→y.own w' w.heap.size→Fr Non w w'→Lk b s a l w (.returned (.agg y.cells)) w'):=fun y w' h1 h2 h3=>⟨y,rfl,h1,h2,h3⟩
 unfold Eo at kS
 generalize Lk b s a l w=POST at*
 generalize sgn (Dt b s a (Am l))=OO at*
 generalize (Am l).flatMap Id.cells=SC at*
 clear hox hlS hn hr hok hu2 hu
 go_enter Tryz.func41,Tryz.ntmps41
 go_upto_region 1 with (fail)
 generalize w.alloc (.cells zO 44)=w0 at*
 have f0s:=f0.size
 go_wp2_with (first
  |(go_at_call 50;(with_reducible refine (kS.out _ f0).mono ?_);rintro _ w1 ⟨A1,c1,rfl,o1,f1⟩;have kg:=Lib.hid (kG.out A1 c1 w1 _ o1);have bz1:=bz0.fr f1 zq;have fr1:=f0.trans f1 zr;have hrow:=o1.row;have hbl:=bz0.lt;clear kS kG o1 f1)
  |(go_at_call 15;(with_reducible refine (kg.out).mono ?_);rintro _ w2 ⟨y,rfl,hop,hyat,f2⟩;have bz2:=bz1.fr f2 zq;have fr2:=fr1.trans f2 zr;have honey:=Cp y;have fin:Hid (∀wz,Fr (One w.heap.size) w2 wz→POST (.returned (.agg y.cells)) wz):=(fun wz hz=>by
    have hz':Fr Non w wz:=fr2.trans hz (fun k hk e=>absurd hk (by have e':k=w.heap.size:=e;omega))
    have hsz:w.heap.size≤w0.heap.size:=f0s
    exact hpost.out y wz hop ((hyat (One w.heap.size) wz ((Fr.of_non f2 (One w.heap.size)).trans hz zr) (fun k hk e=>by have h1:=(hrow k hk).1;have e':k=w.heap.size:=e;omega)).lower hsz) hz');clear kg f2)
  |(refine Fm rfl 44 (.tmp 8) (.tmp 16) rfl rfl rfl rfl bz2 hi rfl honey ?_;have hfz:=(Fr.refl (One w.heap.size) w2).setRow (g:=w.heap.size) (fun _=>rfl) y.cells;have hz2:=bz2.setRow (cs:=y.cells);generalize w2.setRow w.heap.size y.cells=wz at hfz hz2 ⊢;(repeat (first|go_values|go_skip|go_guarded|go_step));exact Dn (t:=44) rfl rfl hz2 rfl Tryz.underlying44 (by kernel_rfl) rfl (fin.out wz hfz)))
end Oq
end
section
open Go.RowKit Go.Sort Go.Shelf
namespace Oq
section
variable {α : Type} [Inhabited α] {enc : α → List Value} {sz : Nat} (hlen : ∀ x, (enc x).length = sz) (hsz : 0 < sz)
include hlen hsz
theorem Rh (xs:List α) {j:Nat} (hj:j<xs.length*sz):(xs.flatMap enc)[j]? =some ((flatK enc sz xs.toArray)[j]!):=by
 rw [get_flatK _ _ _ _ (by simpa using hj)]
 have hk:j/sz<xs.length:=Nat.div_lt_of_lt_mul (by rwa [Nat.mul_comm] at hj)
 have hm:j%sz<sz:=Nat.mod_lt _ hsz
 have h1:xs[j/sz]? =some xs[j/sz]:=Ak2 hk
 have h2:=E8 (f:=enc) (size:=sz) hlen xs (j/sz) (j%sz) _ h1 hm
 rw [Nat.mul_comm,Nat.div_add_mod] at h2
 rw [h2]
 have h3:xs.toArray[j/sz]! =xs[j/sz]:=by simp [hk]
 rw [h3]
 have h4:j%sz<(enc xs[j/sz]).length:=by rw [hlen];exact hm
 rw [Ak2 h4]
 simp [h4]
theorem Aa4 {w:World} {base c:Nat} {t:TypeId} {g:Nat} {xs:List α} (h:Own w base t sz (some ⟨g,0,none⟩) xs.length c (xs.flatMap enc)):HoldsK enc sz w g 0 xs.toArray:=by
 intro j hj
 have hj':j<xs.length*sz:=by simpa using hj
 obtain ⟨cur,hb,hl,hs⟩:=Q6 h (by
  rcases Nat.eq_zero_or_pos xs.length with h0|h0
  · rw [h0] at hj';simp at hj'
  · exact h0)
 have hf:=Rh hlen hsz xs hj'
 rw [Nat.zero_add]
 refine ⟨?_,hb.frozen j⟩
 rw [hb.cell j,id,← hf,← hl,List.getElem?_take_of_lt hj']
 simp
theorem Aa5 {w:World} {base c:Nat} {t:TypeId} {g:Nat} {xs ys:List α} (n:Nat) (os:Array Obj) (h:Own w base t sz (some ⟨g,0,none⟩) xs.length c (xs.flatMap enc)) (hx:0<xs.length) (hl:ys.length=xs.length):
  Own (sortWorldK enc sz w g 0 n ys.toArray os) base t sz (some ⟨g,0,none⟩) ys.length c (ys.flatMap enc):=by
 have hyl:(ys.flatMap enc).length=ys.length*sz:=E9 (f:=enc) hlen ys
 rcases h.2 with ⟨_,h0⟩|⟨g',cap,cur,hv,hb,hg,h1,h2,h3,h4⟩
 · omega
 ·
  injection hv with hA hn' hc
  injection hA with hA
  injection hA with hA
  subst hA
  subst hc
  have hs:xs.length*sz≤cur.size:=by
   have h5:=congrArg List.length h4
   rw [List.length_take,Array.length_toList,h.1] at h5
   rw [← h5]
   exact Nat.min_le_right _ _
  have hnew:=Q7 (n:=n) (os:=os) (d:=flatK enc sz ys.toArray) (show Blk w g t cur from hg)
  refine ⟨hyl,.inr ⟨g,c,putCells id 0 (flatK enc sz ys.toArray) cur,rfl,hb,hnew,by omega,h2,?_,?_⟩⟩
  · simpa [putCells] using h3
  ·
   rw [← hyl]
   exact Q9 (by rw [hyl];simp) (fun j hj=>Rh hlen hsz ys (by omega)) (by rw [hyl,hl];exact hs)
end
end Oq
end
section
open Go.RowKit
attribute [local go_sem ↓] Go.wp_at_zero Go.wp_at_succ
namespace Oq
theorem Aa6 (l:List Cd):∀v∈l.flatMap Cd.cells,v.oneCell'=true:=Ij _ (fun a v hv=>by simp [Cd.cells] at hv;rcases hv with rfl|rfl|rfl|rfl|rfl<;>rfl) l
end Oq
end
end Go.Proofs.YtafonabghnogaaaGreatDoor
namespace Go.Proofs
open Go.Shelf Go.RowKit Go.Lib Go.Sort
def Tryz.sortCards_ren:Go.Shelf.Ren:=⟨fun|6=>77|15=>128|14=>127|28=>185|29=>186|20=>177|21=>178|22=>179|23=>180|24=>181|25=>182|26=>183|27=>184|46=>216|47=>217|48=>218|49=>219|50=>220|57=>232|n=>n,fun|22=>26|24=>81|25=>131|3=>3|39=>172|0=>0|53=>220|55=>23|4=>4|46=>214|45=>213|50=>119|5=>5|9=>9|66=>239|70=>242|76=>254|77=>255|n=>n,fun|n=>n⟩
theorem Tryz.sortCards:Go.Proofs.SlLaysF0.n6 Tryz.prog Tryz.sortCards_ren:={
  mixed:=by kernel_rfl
  f6:=⟨Tryz.f77.name,by decide,Tryz.func77.trans (congrArg some (by kernel_rfl))⟩
  f14:=⟨Tryz.f127.name,by decide,Tryz.func127.trans (congrArg some (by kernel_rfl))⟩
  f15:=Tryz.func128.trans (congrArg some (by kernel_rfl))
  f20:=⟨Tryz.f177.name,by decide,Tryz.func177.trans (congrArg some (by kernel_rfl))⟩
  f21:=⟨Tryz.f178.name,by decide,Tryz.func178.trans (congrArg some (by kernel_rfl))⟩
  f22:=⟨Tryz.f179.name,by decide,Tryz.func179.trans (congrArg some (by kernel_rfl))⟩
  f23:=⟨Tryz.f180.name,by decide,Tryz.func180.trans (congrArg some (by kernel_rfl))⟩
  f24:=⟨Tryz.f181.name,by decide,Tryz.func181.trans (congrArg some (by kernel_rfl))⟩
  f25:=⟨Tryz.f182.name,by decide,Tryz.func182.trans (congrArg some (by kernel_rfl))⟩
  f26:=⟨Tryz.f183.name,by decide,Tryz.func183.trans (congrArg some (by kernel_rfl))⟩
  f27:=⟨Tryz.f184.name,by decide,Tryz.func184.trans (congrArg some (by kernel_rfl))⟩
  f28:=Tryz.func185.trans (congrArg some (by kernel_rfl))
  f29:=Tryz.func186.trans (congrArg some (by kernel_rfl))
  f46:=⟨Tryz.f216.name,by decide,Tryz.func216.trans (congrArg some (by kernel_rfl))⟩
  f47:=Tryz.func217.trans (congrArg some (by kernel_rfl))
  f48:=Tryz.func218.trans (congrArg some (by kernel_rfl))
  f49:=⟨Tryz.f219.name,by decide,Tryz.func219.trans (congrArg some (by kernel_rfl))⟩
  f50:=⟨Tryz.f220.name,by decide,Tryz.func220.trans (congrArg some (by kernel_rfl))⟩
  f57:=⟨Tryz.f232.name,by decide,Tryz.func232.trans (congrArg some (by kernel_rfl))⟩
  t0:=Tryz.underlying0
  a0:=Tryz.isAgg0
  z0:=Tryz.sizeOf0
  v0:=Tryz.zeroValue0
  t3:=Tryz.underlying3
  a3:=Tryz.isAgg3
  z3:=Tryz.sizeOf3
  v3:=Tryz.zeroValue3
  t4:=Tryz.underlying4
  a4:=Tryz.isAgg4
  z4:=Tryz.sizeOf4
  v4:=Tryz.zeroValue4
  t5:=Tryz.underlying5
  a5:=Tryz.isAgg5
  z5:=Tryz.sizeOf5
  v5:=Tryz.zeroValue5
  t9:=Tryz.underlying9
  a9:=Tryz.isAgg9
  z9:=Tryz.sizeOf9
  v9:=Tryz.zeroValue9
  t22:=Tryz.underlying26
  a22:=Tryz.isAgg26
  z22:=Tryz.sizeOf26
  v22:=Tryz.zeroValue26
  t25:=Tryz.underlying131
  a25:=Tryz.isAgg131
  z25:=Tryz.sizeOf131
  v25:=Tryz.zeroValue131
  t39:=Tryz.underlying172
  a39:=Tryz.isAgg172
  z39:=Tryz.sizeOf172
  v39:=Tryz.zeroValue172
  t45:=Tryz.underlying213
  a45:=Tryz.isAgg213
  z45:=Tryz.sizeOf213
  v45:=Tryz.zeroValue213
  t46:=Tryz.underlying214
  a46:=Tryz.isAgg214
  z46:=Tryz.sizeOf214
  v46:=Tryz.zeroValue214
  t50:=Tryz.underlying119
  a50:=Tryz.isAgg119
  z50:=Tryz.sizeOf119
  v50:=Tryz.zeroValue119
  t53:=Tryz.underlying220
  a53:=Tryz.isAgg220
  z53:=Tryz.sizeOf220
  v53:=Tryz.zeroValue220
  t55:=Tryz.underlying23
  a55:=Tryz.isAgg23
  z55:=Tryz.sizeOf23
  v55:=Tryz.zeroValue23
  t66:=Tryz.underlying239
  a66:=Tryz.isAgg239
  z66:=Tryz.sizeOf239
  v66:=Tryz.zeroValue239
  t70:=Tryz.underlying242
  a70:=Tryz.isAgg242
  z70:=Tryz.sizeOf242
  v70:=Tryz.zeroValue242
  t76:=Tryz.underlying254
  a76:=Tryz.isAgg254
  z76:=Tryz.sizeOf254
  v76:=Tryz.zeroValue254
  t77:=Tryz.underlying255
  a77:=Tryz.isAgg255
  z77:=Tryz.sizeOf255
  v77:=Tryz.zeroValue255}
end Go.Proofs
namespace Go.Proofs.YtafonabghnogaaaGreatDoor
section
open Go.RowKit Go.Sort Go.Shelf
attribute [local go_sem ↓] Go.wp_at_zero Go.wp_at_succ
namespace Oq
structure CdR where
 c:Cd
 lo:0≤c.d
 hi:c.d≤1000
instance:Inhabited CdR:=⟨⟨⟨0,0,0,0,0⟩,Al1 _,by decide⟩⟩
def CdR.cells (x:CdR):List Value:=x.c.cells
def Gz (x y:CdR):Int:=x.c.d-y.c.d
theorem I5 (x y:CdR):ltOf Gz x y=decide (x.c.d<y.c.d):=by
 unfold ltOf Gz
 rw [Bool.eq_iff_iff,decide_eq_true_iff,decide_eq_true_iff]
 omega
theorem Aa7:SWO (ltOf Gz) where
 irrefl x:=by rw [I5];simp
 trans x y z h1 h2:=by
  rw [I5,decide_eq_true_iff] at*
  omega
 ntrans x y z h1 h2:=by
  rw [I5,decide_eq_false_iff_not] at*
  omega
theorem Aa8 (x y:Cd) (w:World) (hx0:0≤x.d) (hx1:x.d≤1000) (hy0:0≤y.d) (hy1:y.d≤1000):
  Calls Tryz.prog 78 #[.agg #[.int .i64 x.d,.int .i64 x.m,.int .u64 (x.l:Int),.int .u64 (x.k:Int),.int .u64 (x.s:Int)],.agg #[.int .i64 y.d,.int .i64 y.m,.int .u64 (y.l:Int),.int .u64 (y.k:Int),.int .u64 (y.s:Int)]] w fun e w'=>e=.returned (.int .i64 (x.d-y.d))∧GrowOf w w':=by
 have hf:=((GrowOf.refl w).alloc (.cells #[.int .i64 x.d,.int .i64 x.m,.int .u64 (x.l:Int),.int .u64 (x.k:Int),.int .u64 (x.s:Int)] 81)).alloc (.cells #[.int .i64 y.d,.int .i64 y.m,.int .u64 (y.l:Int),.int .u64 (y.k:Int),.int .u64 (y.s:Int)] 81)
 go_enter Tryz.func78,Tryz.ntmps78
 go_wp2
 go_ret
 exact ⟨rfl,hf⟩
theorem Aa9 (blk off size:Nat) (w:World):CmpLays Tryz.prog 78 #[] CdR.cells 5 Gz blk off size w:=
 fun _ _ _ _ x y=>Aa8 x.c y.c _ x.lo x.hi y.lo y.hi
theorem Ab0 (base:Nat) (A:Option Addr) (c:Nat) (xs:List CdR) (w:World) (hown:Own w base 81 5 A xs.length c (xs.flatMap CdR.cells)) (hlen:xs.length≤1000000):
  Calls Tryz.prog 77 #[.slice A xs.length c,.func (.func 78) #[] #[]] w fun e w'=>e=.returned (.tuple #[])∧
   ∃ys:List CdR,ys.Perm xs∧ys.Pairwise (fun x y=>x.c.d≤y.c.d)∧Own w' base 81 5 A ys.length c (ys.flatMap CdR.cells)∧Fr (fun k=>Ac A=some k) w w':=by
 by_cases h0:xs.length=0
 ·
  have hx:xs=[]:=List.eq_nil_of_length_eq_zero h0
  subst hx
  have hcon:=AnyF.slices_SortFunc_none Tryz.sortCards A c (.func (.func 78) #[] #[]) w
  refine Calls.mono hcon ?_
  rintro e w' ⟨rfl,rfl⟩
  exact ⟨rfl,[],List.Perm.refl _,List.Pairwise.nil,hown,Fr.refl _ _⟩
 ·
  obtain ⟨g,rfl⟩:∃g,A=some ⟨g,0,none⟩:=by
   rcases hown.2 with ⟨_,hn⟩|⟨g,cap,cur,hv,_⟩
   · exact absurd hn h0
   ·
    injection hv with hA _ _
    exact ⟨g,hA⟩
  have hrow:=hown.row g rfl
  have eg:∀args w,(callFunc 78 args).run Tryz.prog w=.ok (.enter 78 args) w:=enters_of Tryz.func78 (by kernel_rfl) rfl
  have hcon:=AnyQ.slices_SortFunc Tryz.sortCards 5 Tryz.isAgg81 Tryz.sizeOf81 CdR.cells (fun _=>rfl) (fun x v hv=>by simp [CdR.cells,Cd.cells] at hv;rcases hv with rfl|rfl|rfl|rfl|rfl<;>rfl) Gz Aa7 78 #[] g 0 c xs.toArray w eg (Aa9 g 0 _ w) (Aa4 (enc:=CdR.cells) (fun _=>rfl) (by decide) hown) hrow.2 (by simp;omega)
  refine Calls.mono hcon ?_
  rintro e w' ⟨rfl,d',n,os,hp,hs,rfl⟩
  have hds:d'.size=xs.length:=by rw [hp.1];simp
  have hperm:d'.toList.Perm xs:=by
   have h1:=hp.2.2
   have e1:d'.extract 0 xs.toArray.size=d':=by
    rw [show xs.toArray.size=d'.size from hp.1.symm]
    simp
   have e2:xs.toArray.extract 0 xs.toArray.size=xs.toArray:=by simp
   rw [e1,e2] at h1
   simpa using h1
  refine ⟨rfl,d'.toList,hperm,?_,?_,?_⟩
  ·
   rw [List.pairwise_iff_getElem]
   intro i j hi hj hij
   have h1:=hs i j (Ak3 _) hij (by rw [← hp.1];simpa using hj)
   rw [I5] at h1
   have hi':i<d'.size:=by simpa using hi
   have hj':j<d'.size:=by simpa using hj
   rw [getElem!_pos d' i hi',getElem!_pos d' j hj',decide_eq_false_iff_not] at h1
   have h2:d'.toList[i]=d'[i]:=by simp
   have h3:d'.toList[j]=d'[j]:=by simp
   rw [h2,h3]
   omega
  ·
   have h1:=Aa5 (enc:=CdR.cells) (sz:=5) (fun _=>rfl) (by decide) (ys:=d'.toList) n os hown (by omega) (by simpa using hds)
   simpa using h1
  · exact (Q8 w g n _ os).mono (fun k hk e=>by have e':k=g:=e;subst e';rfl)
theorem Ab1 {xs ys:List CdR} (hp:ys.Perm xs) (hs:ys.Pairwise (fun x y=>x.c.d≤y.c.d)) (hx:xs.Pairwise (fun x y=>x.c.d<y.c.d)):ys=xs:=by
 induction xs generalizing ys with
 |nil=>exact List.Perm.eq_nil hp
 |cons x r ih=>
  cases ys with
  |nil=>exact absurd hp.length_eq (by simp)
  |cons y q=>
   rw [List.pairwise_cons] at hs hx
   have hxy:y=x:=by
    have hy:y∈x::r:=hp.subset (by simp)
    rcases List.mem_cons.1 hy with h|h
    · exact h
    ·
     have h1:=hx.1 y h
     have hx':x∈y::q:=hp.symm.subset (by simp)
     rcases List.mem_cons.1 hx' with h2|h2
     · exact h2.symm
     ·
      have h3:=hs.1 x h2
      omega
   subst hxy
   rw [ih (List.perm_cons y|>.1 hp) hs.2 hx.2]
end Oq
end
section
open Go.RowKit
attribute [local go_sem ↓] Go.wp_at_zero Go.wp_at_succ
namespace Oq
def I6 (cards:List Cd) (w:World) (e:Ending) (w':World):Prop:=
 ∃g:Gph,e=.returned (.pointer (some ⟨g.gb,0,none⟩))∧GAt w' w.heap.size g∧g.nodes=[]∧g.cards=cards∧Fr Non w w'
theorem Lo (l:List CdR):l.flatMap CdR.cells=(l.map CdR.c).flatMap Cd.cells:=by
 rw [List.flatMap_map]
 rfl
theorem Ab2 (B c:Nat) (A:Option Addr) (l:List CdR) (w:World) (hr:Rd w B 5 A l.length (l.flatMap CdR.cells)) (hs:l.Pairwise (fun x y=>x.c.d<y.c.d)) (hlen:l.length≤1000000) (hpos:0<w.heap.size) (hcs:∀x∈l,x.c.s<18446744073709551616):
  Calls Tryz.prog 23 #[.slice A l.length c] w (I6 (l.map CdR.c) w):=by
 have kc:=Lib.hid (W7 B l.length c A _ w hr (by rw [Lo];exact Aa6 _) hlen)
 have hpost:Hid (∀(A1:Option Addr) (c1:Nat) (w1 w4:World),Fr Non w w1→Own w4 w.heap.size 81 5 A1 l.length c1 (l.flatMap CdR.cells)→
   Fr (fun k=>Ac A1=some k) ((w1.alloc (.map #[] 0)).alloc (.cells #[.slice A1 l.length c1,.map (some w1.heap.size),.slice none 0 0] 123)) w4→(∀k,Ac A1=some k→w.heap.size≤k∧k<w1.heap.size)→
   I6 (l.map CdR.c) w (.returned (.pointer (some ⟨w1.heap.size+1,0,none⟩))) w4):=by
  intro A1 c1 w1 w4 f1 o4 f4 hrow
  have hmb:¬Ac A1=some w1.heap.size:=fun e=>by have:=(hrow _ e).2;omega
  have hgb:¬Ac A1=some (w1.heap.size+1):=fun e=>by have:=(hrow _ e).2;omega
  have bg:=Blk.new (w1.alloc (.map #[] 0)) 123 #[.slice A1 l.length c1,.map (some w1.heap.size),.slice none 0 0]
  rw [Al2] at bg
  have hm:=((MapAt.made w1).fr ((Fr.refl Non _).alloc (.cells #[.slice A1 l.length c1,.map (some w1.heap.size),.slice none 0 0] 123)) zq).fr f4 hmb
  have sz:=f1.size
  refine ⟨⟨w1.heap.size+1,w1.heap.size,0,A1,c1,l.map CdR.c,none,0,[]⟩,rfl,?_,rfl,rfl,?_⟩
  ·
   refine ⟨?_,hpos,by show _≤w1.heap.size+1;omega,sz,?_,Own.nil _ _ _ _,Ak3 _,Ak3 _,(fun n hn=>absurd hn (Ak4)),?_,?_,hm,fun n hn=>absurd hn (Ak4)⟩
   ·
    have h1:=bg.fr f4 hgb
    show Blk w4 (w1.heap.size+1) 123 #[.slice A1 (l.map CdR.c).length c1,.map (some w1.heap.size),.slice none 0 0]
    rw [Ak7]
    exact h1
   ·
    show Own w4 w.heap.size 81 5 A1 (l.map CdR.c).length c1 ((l.map CdR.c).flatMap Cd.cells)
    rw [Ak7,← Lo]
    exact o4
   ·
    show (l.map CdR.c).length≤1000000
    rw [Ak7]
    exact hlen
   ·
    intro c hc
    obtain ⟨x,hx,rfl⟩:=List.mem_map.1 hc
    exact hcs x hx
  · exact ((f1.alloc _).alloc _).trans f4 (fun k hk e=>absurd hk (by have:=(hrow k e).1;omega))
 generalize I6 (l.map CdR.c) w=POST at*
 have ks:=Lib.hid (fun (A1:Option Addr) (c1:Nat) (w3:World) (o:Own w3 w.heap.size 81 5 A1 l.length c1 (l.flatMap CdR.cells))=>Ab0 w.heap.size A1 c1 l w3 o hlen)
 have hsame:=Lib.hid (fun (ys:List CdR) (hp:ys.Perm l) (hq:ys.Pairwise (fun x y=>x.c.d≤y.c.d))=>Ab1 hp hq hs)
 clear hr hs hcs
 go_enter Tryz.func23,Tryz.ntmps23
 go_wp2_with (fail)
 refine (kc.out).mono ?_
 rintro _ w1 ⟨A1,c1,rfl,o1,f1⟩
 have hrow:=o1.row
 have bg:=Blk.new (w1.alloc (.map #[] 0)) 123 #[.slice A1 l.length c1,.map (some w1.heap.size),.slice none 0 0]
 rw [Al2] at bg
 have o3:=(o1.alloc (.map #[] 0)).alloc (.cells #[.slice A1 l.length c1,.map (some w1.heap.size),.slice none 0 0] 123)
 have g0:((w1.alloc (.map #[] 0)).alloc (.cells #[.slice A1 l.length c1,.map (some w1.heap.size),.slice none 0 0] 123)).cell? ⟨w1.heap.size+1,0,none⟩=some (.slice A1 l.length c1):=bg.cell 0
 have kq:=Lib.hid (ks.out A1 c1 _ o3)
 have hp:=Lib.hid (fun (w4:World) o f=>hpost.out A1 c1 w1 w4 f1 o f hrow)
 have f1':=Lib.hid f1
 clear kc ks hpost o1 o3 hrow f1 bg
 have hmm:=@run_makeMap Tryz.prog
 go_wp2_with (fail)
 refine (kq.out).mono ?_
 rintro _ w4 ⟨rfl,ys,hperm,hpw,o4,f4⟩
 obtain rfl:=hsame.out ys hperm hpw
 have fin:=Lib.hid (hp.out w4 o4 f4)
 clear kq hp hsame o4 f4 hperm hpw f1' g0
 go_wp2_with (fail)
 exact fin.out
theorem Ab3 (n:Nat):Sg.pub n<18446744073709551616:=Al0 (Fd.pow_lt _ _) (by decide)
theorem cd_d (d m:Int) (l k s:Nat):(Cd.mk d m l k s).d=d:=rfl
theorem cd_s' (d m:Int) (l k s:Nat):(Cd.mk d m l k s).s=s:=rfl
theorem Ga (k:Nat) (m:Int):(Bw k m).d=(k:Int)+1:=cd_d _ _ _ _ _
theorem Lp (k:Nat) (m:Int):(Bw k m).s=Sg.pub (sec Bc (k+1)):=cd_s' _ _ _ _ _
theorem Lq:∀(l:List Int) (i:Nat),i+l.length≤1000→∃xs:List CdR,xs.map CdR.c=Bf i l∧xs.Pairwise (fun x y=>x.c.d<y.c.d)∧(∀x∈xs,(i:Int)<x.c.d)∧∀x∈xs,x.c.s<18446744073709551616
 |[],i,_=>⟨[],rfl,List.Pairwise.nil,by simp,by simp⟩
 |m::r,i,h=>by
  have h':i+1+r.length≤1000:=by rw [List.length_cons] at h;omega
  have hi:i+1≤1000:=by omega
  obtain ⟨xs,h1,h2,h3,h4⟩:=Lq r (i+1) h'
  refine ⟨⟨Bw i m,by rw [Ga];omega,by rw [Ga];omega⟩::xs,?_,?_,?_,?_⟩
  ·
   show Bw i m::xs.map CdR.c=Bw i m::Bf (i+1) r
   rw [h1]
  ·
   refine List.pairwise_cons.2 ⟨fun x hx=> ?_,h2⟩
   show (Bw i m).d<x.c.d
   rw [Ga]
   have:=h3 x hx
   omega
  ·
   intro x hx
   rcases List.mem_cons.1 hx with rfl|hx
   ·
    show (i:Int)<(Bw i m).d
    rw [Ga]
    omega
   ·
    have:=h3 x hx
    omega
  ·
   intro x hx
   rcases List.mem_cons.1 hx with rfl|hx
   ·
    show (Bw i m).s<_
    rw [Lp]
    exact Ab3 _
   · exact h4 x hx
theorem Ri (B n c:Nat) (A:Option Addr) (l:List Int) (w:World) (hn:Hid (l.length=n)) (hnm:n≤1000) (hr:Rd w B 5 A n ((Bf 0 l).flatMap Cd.cells)) (hpos:0<w.heap.size):
  Calls Tryz.prog 23 #[.slice A n c] w (I6 (Bf 0 l) w):=by
 obtain ⟨xs,h1,h2,_,h4⟩:=Lq l 0 (by rw [hn.out];omega)
 have hl:xs.length=n:=by
  have:=congrArg List.length h1
  rw [Ak7,Ox,hn.out] at this
  exact this
 rw [← h1] at hr ⊢
 rw [← hl] at hr ⊢
 rw [← Lo] at hr
 exact Ab2 B c A xs w hr h2 (by omega) hpos h4
theorem GAt.ge {w:World} {base:Nat} {g:Gph} (h:GAt w base g) {k:Nat} (hk:g.own k):base≤k:=by
 rcases hk with e|e|e
 · rw [e];exact h.gbase
 · rw [e];exact h.mbase
 · exact (h.own.row k e).1
theorem KindsAt.own {w w':World} {base:Nat} {g:Gph} (h:KindsAt w) (hg:GAt w base g) (hf:Fr g.own w w'):KindsAt w':=fun k hk=>hf.cell (h k hk) (fun e=>by have h1:=hg.ge e;have h2:=hg.pos;have h3:base≤0:=h1;omega)
theorem Blk.keepG {w w':World} {base b:Nat} {g:Gph} {t:TypeId} {cs:Array Value} (h:Blk w b t cs) (hg:GAt w base g) (hf:Fr g.own w w') (ht:¬Gty t):Blk w' b t cs:=h.fr hf (fun e=>ht (hg.types _ _ _ _ h e))
theorem OpL.own.keepG {w w':World} {base bx:Nat} {g:Gph} {x:OpL} (h:x.own w bx) (hg:GAt w base g) (hf:Fr g.own w w'):x.own w' bx:=
 h.keepP hf hg.types (by unfold Gty;decide) (by unfold Gty;decide) (by unfold Gty;decide) (by unfold Gty;decide) (by unfold Gty;decide) (by unfold Gty;decide) (by unfold Gty;decide)
def Hw (base:Nat) (g:Gph) (l:List Pn) (w:World) (e:Ending) (w':World):Prop:=
 e=.returned (.int .i64 0)∧∃g':Gph,GAt w' base g'∧g'.gb=g.gb∧g'.cards=g.cards∧g'.pns=l∧Fr g.own w w'
theorem Ha {base:Nat} {g:Gph} {x:OpL} {w:World} {l:List Pn} {p:Pn} (hl:g.pns=l) (hg:GAt w base g) (hat:x.at w w.heap.size) (hok:x.op.ok) (hkn:KindsAt w) (he:Ah g.cards l x.op=0) (hp:Av l x.op=p):
  Calls Tryz.prog 17 #[.pointer (some ⟨g.gb,0,none⟩),.agg x.cells] w (Hw base g (l++[p]) w):=by
 subst hl
 refine (Ht base g x w hg hat hok hkn).mono ?_
 rintro e w' ⟨rfl,h⟩
 rcases h with ⟨h0,_⟩|⟨_,g',h1,h2,_,h4,h5,h6,_⟩
 · exact absurd he h0
 ·
  refine ⟨by rw [he],g',h1,h2,h4,?_,h6⟩
  rw [h5,hp]
theorem Rj {base:Nat} {g:Gph} {x:OpL} {w:World} {l:List Pn} {err:Int} (hl:g.pns=l) (hg:GAt w base g) (hat:x.at w w.heap.size) (hok:x.op.ok) (hkn:KindsAt w) (he:Ah g.cards l x.op=err) (h0:err≠0):
  Calls Tryz.prog 17 #[.pointer (some ⟨g.gb,0,none⟩),.agg x.cells] w fun e w'=>e=.returned (.int .i64 err)∧Fr Non w w':=by
 subst hl
 subst he
 refine (Ht base g x w hg hat hok hkn).mono ?_
 rintro e w' ⟨rfl,h⟩
 rcases h with ⟨_,hf⟩|⟨h1,_⟩
 · exact ⟨rfl,hf⟩
 · exact absurd h1 h0
theorem Gb {o:Op} (h:o.ok):(sgn o).ok:=by
 have h1:Sg.r (sec Bc o.by_.toNat) o.bare<18446744073709551616:=Al0 (Sg.r_lt _ _) (by decide)
 have h2:Sg.s (sec Bc o.by_.toNat) o.bare<18446744073709551616:=Al0 (Sg.s_lt _ _) (by decide)
 unfold sgn
 generalize Sg.r (sec Bc o.by_.toNat) o.bare=R at*
 generalize Sg.s (sec Bc o.by_.toNat) o.bare=S at*
 exact {h with r:=h1,s:=h2}
end Oq
namespace Oq
attribute [local go_sem ↓] Cf Ef
attribute [local go_sem] Ak8 Ak9
theorem Rows.step {cards:List Cd} {l:List Pn} (h:Rows cards l) {i:Nat} {n:Pn} (hi:l[i]? =some n):Ah cards (l.take i) n.o=0∧Av (l.take i) n.o=n:=by
 induction h with
 |nil=>simp at hi
 |snoc l o hl ho ih=>
  rcases Nat.lt_or_ge i l.length with hlt|hge
  ·
   rw [List.getElem?_append_left hlt] at hi
   rw [List.take_append_of_le_length (Al3 hlt)]
   exact ih hi
  ·
   have e:i=l.length:=by
    have:=(List.getElem?_eq_some_iff.1 hi).1
    rw [List.length_append,List.length_singleton] at this
    omega
   subst e
   rw [List.getElem?_append_right (Al4 _),Nat.sub_self] at hi
   injection hi with hi
   subst hi
   rw [List.take_left']
   · exact ⟨ho,rfl⟩
   · rfl
def Lr (cards:List Cd) (l:List Pn) (w:World) (e:Ending) (w':World):Prop:=
 ∃(g:Gph) (base:Nat),e=.returned (.pointer (some ⟨g.gb,0,none⟩))∧w.heap.size≤base∧GAt w' base g∧g.cards=cards∧g.pns=l∧Fr Non w w'
theorem Hz (base:Nat) (r:RG) (w:World) (h:r.own w base) (hcs:r.cards=Bf 0 [1,2,3,1]) (hpos:0<w.heap.size) (hk:KindsAt w):
  Calls Tryz.prog 13 #[.agg r.cells] w (Lr r.cards r.l w):=by
 have hi:(Tryz.prog.info? 44).map (·.size)=some 27:=by kernel_rfl
 have hfew:=h.few
 have hn4:r.cards.length=4:=by rw [hcs,Ox];rfl
 have hr0:=h.cards.sl.rd
 rw [hn4,hcs] at hr0
 have bg:=Blk.new w 32 r.cells
 have f0:Fr Non w (w.alloc (.cells r.cells 32)):=(Fr.refl Non w).alloc _
 have c0:(w.alloc (.cells r.cells 32)).cell? ⟨w.heap.size,0,none⟩=some (.slice r.cA 4 r.cC):=by rw [← hn4];exact bg.cell 0
 have c1:(w.alloc (.cells r.cells 32)).cell? ⟨w.heap.size,1,none⟩=some (.slice r.lA r.l.length r.lC):=bg.cell 1
 have kn:=Lib.hid (fun (w':World) (hf:Fr Non w w')=>Ri w.heap.size 4 r.cC r.cA [1,2,3,1] w' rfl (by decide) (hr0.fr hf zr) (Nat.lt_of_lt_of_le hpos hf.size))
 have ka:=Lib.hid (fun (j:Nat) (nd:Pn) (hj:r.l[j]? =some nd) (b:Nat) (q:Gph) (w':World) (hb:w.heap.size≤b) (hq:GAt w' b q) (hqc:q.cards=r.cards) (hqp:q.pns=r.l.take j) (hf:Fr Non w w')=>show ∃x:OpL,∃b' off:Nat,r.lA=some ⟨b',off,none⟩∧World.rangeAt w' b' (off+j*27) x.cells.toList∧x.cells.size=27∧
   Calls Tryz.prog 17 #[.pointer (some ⟨q.gb,0,none⟩),.agg x.cells] w' (Hw b q (r.l.take (j+1)) w') from by
  obtain ⟨x,b',off,_,hop,hxo,hA,_,hc⟩:=h.xAt hj
  obtain ⟨s1,s2⟩:=h.rows.step hj
  refine ⟨x,b',off,hA,fun k v hv=>hf.cell (hc k (List.getElem?_eq_some_iff.1 hv).1 v hv) zq,rfl,?_⟩
  rw [Ei hj]
  exact Ha hqp hq (hxo.non hf).at (by rw [hop];exact (h.ok nd (Al5 hj)).1) (hk.fr hf) (by rw [hqc,hop];exact s1) (by rw [hop];exact s2))
 have hcs':=Lib.hid hcs
 clear h hk hr0 bg hcs hn4
 have hfin:Hid (∀(g:Gph) (b:Nat) (w':World),w.heap.size≤b→GAt w' b g→g.cards=r.cards→g.pns=r.l→Fr Non w w'→Lr r.cards r.l w (.returned (.pointer (some ⟨g.gb,0,none⟩))) w'):=fun g b w' h1 h2 h3 h4 h5=>⟨g,b,rfl,h1,h2,h3,h4,h5⟩
 obtain ⟨N,hN⟩:=Ab r.l.length
 rw [hN.out] at c1 hfew
 generalize Lr r.cards r.l w=POST at*
 generalize r.cells=CS at*
 generalize r.cards=CDS at*
 generalize r.lA=LA at*
 generalize r.lC=LC at*
 generalize r.cA=CA at*
 generalize r.cC=CC at*
 generalize r.l=l at*
 go_enter Tryz.func13,Tryz.ntmps13
 go_upto_region 1 with (fail)
 have hb2:w.heap.size+1≤(w.alloc (.cells CS 32)).heap.size:=by rw [Al2];exact Al4 _
 generalize w.alloc (.cells CS 32)=w0 at*
 go_upto_region 2 with (go_at_call 23;(with_reducible refine (kn.out _ f0).mono ?_);rintro _ w2 ⟨g,rfl,hg,hgn,hgc,f2⟩)
 have fr2:=f0.trans f2 zr
 replace c1:=f2.cell c1 zq
 have hpn:Hid (g.pns=l.take 0):=by show _=_;unfold Gph.pns;rw [hgn];rfl
 have hgc2:Hid (g.cards=CDS):=hgc.trans hcs'.out.symm
 obtain ⟨gb,hgb⟩:=Ab g.gb
 rw [hgb.out]
 obtain ⟨b,hbe⟩:=Ab w0.heap.size
 rw [hbe.out] at hg hb2
 clear kn hgn hgc c0 f2 f0 hcs' hbe
 go_wp2_with (fail)
 go_loopw [4] (fun v wr=>∃(j:Nat) (q:Gph),v=.int .i64 (j:Int)∧j≤N∧Hid (GAt wr b q)∧Hid (q.gb=gb)∧Hid (q.cards=CDS)∧Hid (q.pns=l.take j)∧wr.cell? ⟨w.heap.size,1,none⟩=some (.slice LA N LC)∧Fr Non w wr) (fun v _=>N-(intOf v).toNat)
 case atStart=>exact ⟨0,g,rfl,Ak3 _,hg,hgb.out,hgc2.out,hpn.out,c1,fr2⟩
 case round=>
  clear hg hgb hgc2 hpn c1 fr2
  obtain ⟨j,q,rfl,hj,hq,hqb,hqc,hqp,c1,hf⟩:=hrel
  by_cases hlt:j<N
  ·
   obtain ⟨nd,hnd⟩:∃nd,l[j]? =some nd:=⟨_,Ak2 (by rw [hN.out];exact hlt)⟩
   obtain ⟨x,bx,off,rfl,hrg,hsz,kadd⟩:=ka.out j nd hnd b q wr (by omega) hq.out hqc.out hqp.out hf
   rw [hqb.out] at kadd
   replace kadd:=Lib.hid kadd
   have i1:(0:Int)≤j:=by omega
   have i2:(j:Int)<N:=by omega
   have i3:(j:Int).toNat=j:=by omega
   have hlm:=Pq (P:=Tryz.prog) x.cells bx (off+j*27) Tryz.underlying44 rfl (by rw [hsz];exact hi)
   have hlm2:=hlm wr hrg
   clear hlm hsz ka hnd
   generalize x.cells=XC at*
   go_upto_region 6 with (go_at_call 17;(with_reducible refine (kadd.out).mono ?_);rintro _ w5 ⟨rfl,q2,hq2,hq2b,hq2c,hq2p,F5⟩)
   have c5:=F5.cell c1 (fun e=>by have h1:b≤w.heap.size:=hq.out.ge e;omega)
   have fr5:=hf.trans F5 (fun k hk e=>by have h1:=hq.out.ge e;omega)
   have e1:Hid (q2.gb=gb):=hq2b.trans hqb.out
   have e2:Hid (q2.cards=CDS):=hq2c.trans hqc.out
   clear hrg hlm2 kadd hq hqb hqc hqp F5 hf c1
   go_wp2_with (fail)
   go_roundw
   case rel=>exact ⟨j+1,q2,by go_num,by omega,hq2,e1.out,e2.out,hq2p,c5,fr5⟩
   case measure=>simp [intOf];omega
  ·
   obtain rfl:j=N:=by omega
   have hend:q.pns=l:=by rw [hqp.out,Ak6 (by rw [hN.out];exact Al4 _)]
   have hd:=Lib.hid (hfin.out q b wr (by omega) hq.out hqc.out hend hf)
   rw [hqb.out] at hd
   have t1:decide ((j:Int)<(j:Int))=false:=decide_eq_false (by omega)
   clear hfin ka hq hqc hqp hend
   go_wp2_with (fail)
   exact hd.out
end Oq
end
section
open Go.RowKit
namespace Oq
def bef (l:List Pn) (a b:Id):Bool:=match plc l a,plc l b with|some i,some j=>(l[j]?.map (fun n=>n.ps i)).getD false|_,_=>false
theorem Gph.before_eq (g:Gph) (a b:Id):g.before a b=bef g.pns a b:=by
 unfold Gph.before bef Gph.pns
 rw [Ea,Ea]
 split
 ·
  rename_i i j hi hj
  rw [hi,hj]
  dsimp only
  rw [Ak5,Al6]
  rfl
 ·
  rename_i h
  split
  ·
   rename_i i j hi hj
   exact absurd hj (h i j hi)
  · rfl
theorem Gph.level_eq (g:Gph) (a:Id):g.level a=Bk g.pns a:=by
 unfold Gph.level Bk Gph.pns
 rw [Ea]
 split
 ·
  rename_i i hi
  rw [hi]
  dsimp only
  rw [Ak5,Al6]
  rfl
 ·
  rename_i hi
  rw [hi]
def Dm (l:List Pn) (o:Op):Int:=if clash l o.past=true∨o.at_<late l o.past then 6 else if Ay l (Ai l o.past) o=true then 11 else 0
def Eu (l:List Pn) (o:Op):Int:=if o.past.any (fun id=>(plc l id).isNone)=true then 10 else Dm l o
theorem Ab4 {cards:List Cd} {l:List Pn} {o:Op} (h:o.chk=0) (h2:plc l o.name=none) (h3:l.length<200) (h4:Bm cards o.by_=none):Ah cards l o=17:=by
 rw [Iz h h2 h3,h4]
theorem Ab5 {cards:List Cd} {l:List Pn} {o:Op} {c:Cd} (h:o.chk=0) (h2:plc l o.name=none) (h3:l.length<200) (h4:Bm cards o.by_=some c) (h5:Sg.check c.s o.bare o.r o.s=false):Ah cards l o=12:=by
 rw [Iz h h2 h3,h4]
 dsimp only
 rw [if_pos h5]
theorem Ab6 {cards:List Cd} {l:List Pn} {o:Op} {c:Cd} (h:o.chk=0) (h2:plc l o.name=none) (h3:l.length<200) (h4:Bm cards o.by_=some c) (h5:Sg.check c.s o.bare o.r o.s=true):
  Ah cards l o=if o.kind=1∧l≠[] then 1 else Eu l o:=by
 rw [Iz h h2 h3,h4]
 dsimp only
 rw [if_neg (by rw [h5];simp)]
 rfl
theorem Ab7 {l:List Pn} {o:Op} {y:Id} (hy:y∈o.past) (h:(plc l y).isNone=true):Eu l o=10:=by
 unfold Eu
 rw [if_pos (List.any_eq_true.2 ⟨y,hy,h⟩)]
theorem Ab8 {l:List Pn} {o:Op} (h:∀y∈o.past,∃p,plc l y=some p):Eu l o=Dm l o:=by
 unfold Eu
 rw [if_neg]
 intro e
 obtain ⟨y,hy,he⟩:=List.any_eq_true.1 e
 obtain ⟨p,hp⟩:=h y hy
 rw [hp] at he
 cases he
theorem Ls {l:List Pn} {ids:List Id} {a p:Nat} (h:∀y∈ids,∃p,plc l y=some p) (ha:(Aj l ids)[a]? =some p):∃y,y∈ids∧plc l y=some p:=by
 unfold Aj at ha
 rw [Ak5] at ha
 cases hy:ids[a]? with
 |none=>rw [hy] at ha;cases ha
 |some y=>
  rw [hy] at ha
  injection ha with ha
  have hm:=Al5 hy
  obtain ⟨q,hq⟩:=h y hm
  have ha0:(plc l y).getD 0=p:=ha
  rw [hq] at ha0
  have ha':q=p:=ha0
  subst ha'
  exact ⟨y,hm,hq⟩
theorem Lt {l:List Pn} {ids:List Id} {y:Id} {p:Nat} (hy:y∈ids) (hp:plc l y=some p):∃a:Nat,(Aj l ids)[a]? =some p:=by
 obtain ⟨a,ha⟩:=Al7 hy
 refine ⟨a,?_⟩
 unfold Aj
 rw [Ak5,ha]
 simp [hp]
theorem Ab9 {l:List Pn} {o:Op} (hlen:l.length≤200) (h:∀y∈o.past,∃p,plc l y=some p) {a b p q:Nat} {m:Pn} (h1:(Aj l o.past)[a]? =some p) (h2:(Aj l o.past)[b]? =some q) (h3:l[p]? =some m) (h4:m.ps q=true):Dm l o=6:=by
 obtain ⟨y,hy,hp⟩:=Ls h h1
 obtain ⟨z,hz,hq⟩:=Ls h h2
 unfold Dm
 rw [if_pos (Or.inl (Wp hlen hy hz hp hq h3 h4))]
theorem Ac0 {l:List Pn} {o:Op} (h:∀y∈o.past,∃p,plc l y=some p) {a p:Nat} {m:Pn} (h1:(Aj l o.past)[a]? =some p) (h3:l[p]? =some m) (h4:o.at_<m.o.at_):Dm l o=6:=by
 obtain ⟨y,hy,hp⟩:=Ls h h1
 unfold Dm
 rw [if_pos (Or.inr (Wr hy hp h3 h4))]
theorem Ac1 {l:List Pn} {o:Op} (h0:0≤o.at_) (h:∀y∈o.past,∃p,plc l y=some p) (h1:∀(a b p q:Nat) (m:Pn),(Aj l o.past)[a]? =some p→(Aj l o.past)[b]? =some q→l[p]? =some m→m.ps q=false)
  (h2:∀(a p:Nat) (m:Pn),(Aj l o.past)[a]? =some p→l[p]? =some m→m.o.at_≤o.at_):Dm l o=if Ay l (Ai l o.past) o=true then 11 else 0:=by
 unfold Dm
 rw [if_neg]
 rintro (e|e)
 ·
  rw [Wq (fun a ha b hb p r m k1 k2 k3=> ?_)] at e
  · cases e
  ·
   obtain ⟨i,hi⟩:=Lt ha k1
   obtain ⟨j,hj⟩:=Lt hb k2
   exact h1 i j p r m hi hj k3
 ·
  refine Ws h0 h (fun a ha p m k1 k2=> ?_) e
  obtain ⟨i,hi⟩:=Lt ha k1
  exact h2 i p m hi k2
theorem Rk {cards:List Cd} {l:List Pn} (h:Rows cards l) {ids:List Id} (hids:∀id∈ids,∃p,plc l id=some p):
  C7 (De l) (Aj l ids) l.length (fun _=>false)=Ai l ids:=funext (fun q=>Wm h hids q)
end Oq
end
section
open Go.RowKit
attribute [local go_sem ↓] Go.wp_at_zero Go.wp_at_succ
namespace Oq
attribute [local go_sem ↓] Fa
theorem Ac2 {l:List Pn} {id:Id} (h:∀(j:Nat) (n:Pn),l[j]? =some n→n.id≠id):plc l id=none:=by
 unfold plc
 rw [List.findIdx?_eq_none_iff]
 intro n hn
 obtain ⟨j,hj⟩:=Al7 hn
 exact decide_eq_false (h j n hj)
theorem Ac3 {l:List Pn} {id:Id} {k:Nat} {n:Pn} (hk:l[k]? =some n) (he:n.id=id) (h:∀(j:Nat) (n:Pn),j<k→l[j]? =some n→n.id≠id):plc l id=some k:=by
 obtain ⟨hl,rfl⟩:=List.getElem?_eq_some_iff.1 hk
 unfold plc
 rw [List.findIdx?_eq_some_iff_getElem]
 refine ⟨hl,decide_eq_true he,fun j hj=> ?_⟩
 have:=h j l[j] hj (Ak2 (by omega))
 simpa using this
theorem Rl {r:RG} {k:Nat} {n:Pn} (h:r.l[k]? =some n):r.ids[k]? =some n.id:=by
 unfold RG.ids
 rw [Ak5,h]
 rfl
theorem E2 (base:Nat) (r:RG) (id:Id) (w:World) (h:r.own w base):
  Calls Tryz.prog 37 #[.agg r.cells,.agg id.V] w fun e w'=>e=.returned (.int .i64 (Ao r.l id))∧Fr Non w w':=by
 have hr:=h.rdIds
 have hfew:=h.few
 have hat:Hid (∀(k:Nat) (n:Pn),r.l[k]? =some n→r.ids[k]? =some n.id):=fun k n hk=>Rl hk
 have hno:Hid ((∀(j:Nat) (n:Pn),j<r.l.length→r.l[j]? =some n→n.id≠id)→Ao r.l id= -1):=fun hh=>Ig (Ac2 (fun j n hj=>hh j n (List.getElem?_eq_some_iff.1 hj).1 hj))
 have hyes:Hid (∀(k:Nat) (n:Pn),r.l[k]? =some n→n.id=id→(∀(j:Nat) (n:Pn),j<k→r.l[j]? =some n→n.id≠id)→Ao r.l id=(k:Int)):=fun k n h1 h2 h3=>Gq (Ac3 h1 h2 h3)
 have bg:=(Blk.new w 32 r.cells).alloc (.cells id.V 38)
 have bi:=Blk.new (w.alloc (.cells r.cells 32)) 38 id.V
 rw [Al2] at bi
 have f0:Fr Non w ((w.alloc (.cells r.cells 32)).alloc (.cells id.V 38)):=((Fr.refl Non w).alloc _).alloc _
 have g2:Hid (r.cells[2]? =some (.slice r.iA r.l.length r.iC)):=rfl
 have hm:=J0
 clear h
 generalize Ao r.l id=R at*
 generalize hids:r.ids=ids at*
 generalize hl:r.l=l at*
 generalize r.iA=A at*
 generalize r.iC=C at*
 generalize r.cells=CS at*
 go_enter Tryz.func37,Tryz.ntmps37
 go_wp2
 go_loopw [5] (fun v wr=>∃k:Nat,v=.int .i64 (k:Int)∧k≤l.length∧Hid (∀(j:Nat) (n:Pn),j<k→l[j]? =some n→n.id≠id)∧Fr Non ((w.alloc (.cells CS 32)).alloc (.cells id.V 38)) wr) (fun v _=>l.length-(intOf v).toNat)
 case atStart=>exact ⟨0,rfl,by omega,fun j n hj=>absurd hj (Nat.not_lt_zero _),Fr.refl _ _⟩
 case round=>
  obtain ⟨k,rfl,hk,hh,hf⟩:=hrel
  have bgk:=bg.fr hf zq
  have d2:=(bgk.cell 2).trans g2.out
  have hfin:Fr Non w wr:=f0.trans hf zr
  by_cases hlt:k<l.length
  ·
   obtain ⟨n,hn⟩:∃n,l[k]? =some n:=⟨_,Ak2 hlt⟩
   obtain ⟨b,off,rfl,hbB,k0,k1,k2⟩:=Id.at (hr.fr hfin zr) (hat.out k n hn)
   have bik:=bi.fr hf zq
   have c0:=bik.cell 0
   have c1:=bik.cell 1
   have c2:=bik.cell 2
   have hcase:=Id.eq_iff n.id id
   by_cases he:Id.eq n.id id=true
   ·
    have hR:Hid (R=(k:Int)):=hyes.out k n hn (hcase.1 he) hh.out
    clear hn hat hyes hno hcase bg bi f0 bgk bik hids hl
    generalize n.id=y at*
    generalize l.length=N at*
    have i1:(0:Int)≤k:=by omega
    have i2:(k:Int)<N:=by omega
    have i3:(k:Int).toNat=k:=by omega
    go_wp2
    go_quiet (fail)
    go_wp2
    go_ret
    exact ⟨by rw [hR.out];rfl,hfin.drewN _⟩
   ·
    have he:=Al8 _▸he
    have hnext:Hid (∀(j:Nat) (n:Pn),j<k+1→l[j]? =some n→n.id≠id):=by
     intro j m hj hm
     rcases Nat.lt_or_ge j k with h1|h1
     · exact hh.out j m h1 hm
     ·
      have e:j=k:=by omega
      subst e
      rw [hn] at hm
      injection hm with hm
      subst hm
      intro e
      rw [hcase.2 e] at he
      cases he
    clear hn hat hyes hno hcase bgk bik hids hl hh
    generalize n.id=y at*
    generalize hN:l.length=N at*
    have i1:(0:Int)≤k:=by omega
    have i2:(k:Int)<N:=by omega
    have i3:(k:Int).toNat=k:=by omega
    clear hN
    go_wp2
    go_quiet (fail)
    go_wp2
    go_roundw
    case rel=>exact ⟨k+1,by go_num,by omega,hnext,hf.drewN _⟩
    case measure=>simp [intOf];omega
  ·
   obtain rfl:k=l.length:=by omega
   have hR:Hid (R= -1):=hno.out hh.out
   go_wp2
   go_ret
   exact ⟨by rw [hR.out];rfl,hfin⟩
end Oq
namespace Oq
attribute [local go_sem] Ak8 Ak9
theorem Ek (v:Value):Instr.loadAt 32 v=ldS 32 v:=rfl
attribute [local go_sem ↓] Ek Fa
theorem C0:(Tryz.prog.info? 32).map (·.size)=some 5:=by kernel_rfl
theorem Rm (r:RG):r.ids.length=r.l.length:=by simp [RG.ids]
theorem Rn (base:Nat) (r:RG) (w:World) (h:r.own w base):Calls Tryz.prog 22 #[.agg r.cells] w (Eo r.ids r.l.length w):=by
 have hr:=h.rdIds
 have hfew:=h.few
 have bg:=Blk.new w 32 r.cells
 have f0:Fr Non w (w.alloc (.cells r.cells 32)):=(Fr.refl Non w).alloc _
 have g2:r.cells[2]? =some (.slice r.iA r.l.length r.iC):=rfl
 have c2:=(bg.cell 2).trans g2
 have k:=Lib.hid (Gm w.heap.size r.l.length r.iC r.iA r.ids (w.alloc (.cells r.cells 32)) (Rm r) (hr.fr f0 zr) (by omega))
 unfold Eo at k ⊢
 clear bg g2 h
 generalize r.cells=CS at*
 generalize Am r.ids=IS at*
 go_enter Tryz.func22,Tryz.ntmps22
 go_wp2_with (fail)
 refine k.out.mono ?_
 rintro _ w1 ⟨A,c,rfl,o1,f1⟩
 go_wp2
 go_ret
 exact ⟨A,c,rfl,o1.lower f0.size,f0.trans f1 zr⟩
def Ce (ids:List Id) (d:Int) (k:Nat):Int:=(ids.take k).foldl (fun n x=>if x.b==d then max n x.s else n) 0
theorem Ro {ids:List Id} {d:Int} {k:Nat} {x:Id} (h:ids[k]? =some x):Ce ids d (k+1)=if x.b==d then max (Ce ids d k) x.s else Ce ids d k:=by
 unfold Ce
 rw [Ei h,List.foldl_append]
 rfl
theorem Rp {ids:List Id} {d m:Int} (hm:0≤m) (h:∀x∈ids,x.s≤m) (k:Nat):0≤Ce ids d k∧Ce ids d k≤m:=by
 induction k with
 |zero=>exact ⟨Al1 _,hm⟩
 |succ k ih=>
  cases hx:ids[k]? with
  |none=>
   have:Ce ids d (k+1)=Ce ids d k:=by
    unfold Ce
    rw [Ak6 (by have:=List.getElem?_eq_none_iff.1 hx;omega),Ak6 (by have:=List.getElem?_eq_none_iff.1 hx;omega)]
   rw [this]
   exact ih
  |some x=>
   rw [Ro hx]
   have:=h x (Al5 hx)
   split<;>omega
theorem Ac4 (g:Array Value) (B n c:Nat) (A:Option Addr) (ids:List Id) (d:Int) (w:World) (hn:Hid (ids.length=n)) (hr:Rd w B 3 A n (ids.flatMap Id.cells)) (hnm:n≤1000000) (hs:∀x∈ids,x.s≤2147483647):
  Calls Tryz.prog 51 #[.agg g,.slice A n c,.int .i64 d] w fun e w'=>e=.returned (.int .i64 (Ce ids d n+1))∧Fr Non w w':=by
 have f0:Fr Non w (w.alloc (.cells g 32)):=(Fr.refl Non w).alloc _
 have hr0:=hr.fr f0 zr
 have hbd:=Lib.hid (fun k=>Rp (ids:=ids) (d:=d) (m:=2147483647) (by omega) hs k)
 clear hs hr
 go_enter Tryz.func51,Tryz.ntmps51
 go_wp2
 generalize w.alloc (.cells g 32)=w0 at*
 go_loopw [7,8] (fun m v wr=>∃k:Nat,v=.int .i64 (k:Int)∧m=.int .i64 (Ce ids d k)∧k≤n∧Fr Non w0 wr) (fun _ v _=>n-(intOf v).toNat)
 case atStart=>exact ⟨0,rfl,rfl,by omega,Fr.refl _ _⟩
 case round=>
  obtain ⟨k,rfl,rfl,hk,hf⟩:=hrel
  obtain ⟨b1,b2⟩:=hbd.out k
  by_cases hlt:k<n
  ·
   obtain ⟨y,hy⟩:∃y,ids[k]? =some y:=⟨_,Ak2 (by rw [hn.out];exact hlt)⟩
   obtain ⟨b,off,rfl,hbB,k0,k1,k2⟩:=Id.at (hr0.fr hf zr) hy
   have hsn:=Lib.hid (Ro (d:=d) hy)
   clear hy
   have i1:(0:Int)≤k:=by omega
   have i2:(k:Int)<n:=by omega
   have i3:(k:Int).toNat=k:=by omega
   rcases zb (y.b==d) with he|he
   ·
    have hsn':Hid (Ce ids d (k+1)=max (Ce ids d k) y.s):=by show _=_;rw [hsn.out,he];rfl
    clear hsn
    generalize Ce ids d k=M at*
    go_wp2
    all_goals
     go_roundw
     case rel=>exact ⟨k+1,by go_num,by rw [hsn'.out]<;>(congr 1;omega),by omega,hf⟩
     case measure=>simp [intOf];omega
   ·
    have hsn':Hid (Ce ids d (k+1)=Ce ids d k):=by show _=_;rw [hsn.out,he];rfl
    clear hsn
    generalize Ce ids d k=M at*
    go_wp2
    go_roundw
    case rel=>exact ⟨k+1,by go_num,by rw [hsn'.out],by omega,hf⟩
    case measure=>simp [intOf];omega
  ·
   obtain rfl:k=n:=by omega
   have e1:IntKind.i64.wrap (Ce ids d k+1)=Ce ids d k+1:=IntWalk.i64_in _ (by omega)
   obtain ⟨M,hM⟩:=Ab (Ce ids d k)
   rw [hM.out] at e1 b1 b2
   rw [hM.out]
   go_wp2
   go_ret
   exact ⟨by first|(rw [hM.out];rfl)|rfl,f0.trans hf zr⟩
theorem Ac5 (base:Nat) (r:RG) (B n c:Nat) (A:Option Addr) (ids:List Id) (w:World) (h:r.own w base) (hn:Hid (ids.length=n)) (hr:Rd w B 3 A n (ids.flatMap Id.cells)) (hnm:n≤1000000):
  Calls Tryz.prog 52 #[.agg r.cells,.slice A n c] w fun e w'=>e=.returned (.int .i64 (late r.l ids))∧Fr Non w w':=by
 have hfew:=h.few
 have bg:=Blk.new w 32 r.cells
 have f0:Fr Non w (w.alloc (.cells r.cells 32)):=(Fr.refl Non w).alloc _
 have g1:Hid (r.cells[1]? =some (.slice r.lA r.l.length r.lC)):=rfl
 have hr0:=hr.fr f0 zr
 have kp:=Lib.hid (fun (id:Id) (w':World) (hf:Fr Non w w')=>E2 base r id w' (h.non hf))
 have hat:Hid (∀i,i<r.l.length→∃(m:Pn) (b off:Nat),r.l[i]? =some m∧r.lA=some ⟨b,off,none⟩∧w.cell? ⟨b,off+i*27+3,none⟩=some (.int .i64 m.o.at_)):=by
  intro i hi
  obtain ⟨y,b,off,_,h1,_,h3,_,h4⟩:=h.xAt (Ak2 hi)
  exact ⟨_,b,off,Ak2 hi,h3,by rw [← h1];exact h4 3 (by omega) _ rfl⟩
 have hnn:Hid (∀k,0≤late r.l (ids.take k)):=by
  intro k
  have mono:∀(l:List Id) (t:Int),0≤t→0≤l.foldl (fun t id=>max t (Cb r.l id)) t:=by
   intro l
   induction l with
   |nil=>intro t ht;exact ht
   |cons y q ih=>intro t ht;exact ih _ (by dsimp only;omega)
  exact mono _ 0 (Al1 _)
 have hl:=Bb (P:=Tryz.prog) w.heap.size 32 Tryz.underlying32 rfl (cs:=r.cells) C0
 have hplc:Hid (∀id i,Ao r.l id=(i:Int)→0≤(i:Int)→∀m,r.l[i.toNat]? =some m→Cb r.l id=m.o.at_):=by
  intro id i e hi m hm
  unfold Ao at e
  cases hp:plc r.l id with
  |none=>rw [hp] at e;dsimp only at e;omega
  |some p=>
   rw [hp] at e
   dsimp only at e
   exact Ic hp (by rw [show p=i.toNat by omega];exact hm)
 have hplt:Hid (∀id,-1≤Ao r.l id∧Ao r.l id<r.l.length):=by
  intro id
  unfold Ao
  cases hp:plc r.l id with
  |none=>exact ⟨Al1 _,by dsimp only;omega⟩
  |some p=>have:=C6 hp;exact ⟨by dsimp only;omega,by dsimp only;omega⟩
 have hneg:Hid (∀id,Ao r.l id<0→Cb r.l id=0):=by
  intro id e
  unfold Ao at e
  cases hp:plc r.l id with
  |none=>unfold Cb;rw [hp]
  |some p=>rw [hp] at e;dsimp only at e;omega
 clear h hr
 obtain ⟨N,hN⟩:=Ab r.l.length
 rw [hN.out] at g1 hat hplt hfew
 generalize r.lA=LA at*
 generalize r.lC=LC at*
 generalize r.cells=CS at*
 generalize r.l=l at*
 go_enter Tryz.func52,Tryz.ntmps52
 go_wp2
 generalize w.alloc (.cells CS 32)=w0 at*
 go_loopw [5,6] (fun m v wr=>∃k:Nat,v=.int .i64 (k:Int)∧m=.int .i64 (late l (ids.take k))∧k≤n∧Fr Non w0 wr) (fun _ v _=>n-(intOf v).toNat)
 case atStart=>exact ⟨0,rfl,rfl,by omega,Fr.refl _ _⟩
 case round=>
  obtain ⟨k,rfl,rfl,hk,hf⟩:=hrel
  by_cases hlt:k<n
  ·
   obtain ⟨y,hy⟩:∃y,ids[k]? =some y:=⟨_,Ak2 (by rw [hn.out];exact hlt)⟩
   obtain ⟨b,off,rfl,hbB,k0,k1,k2⟩:=Id.at (hr0.fr hf zr) hy
   have hsn:=Lib.hid (O5 l ids k hy)
   have hnk:=hnn.out k
   clear hy
   have i1:(0:Int)≤k:=by omega
   have i2:(k:Int)<n:=by omega
   have i3:(k:Int).toNat=k:=by omega
   have bgk:=(bg.fr hf zq).drew
   have f0k:Fr Non w wr.drew:=(f0.trans hf zr).drew
   have K0:wr.drew.cell? ⟨b,off+k*3,none⟩=some (.int .i64 y.b):=k0
   have K1:wr.drew.cell? ⟨b,off+k*3+1,none⟩=some (.int .i64 y.s):=k1
   have K2:wr.drew.cell? ⟨b,off+k*3+2,none⟩=some (.int .u64 (y.u:Int)):=k2
   have kpy:=Lib.hid (kp.out y wr.drew f0k)
   obtain ⟨p1,p2⟩:=hplt.out y
   have hpy:=Lib.hid (hplc.out y)
   have hpn:=Lib.hid (hneg.out y)
   clear kp hplc hneg hplt
   generalize Ao l y=P at*
   go_upto_region 5 with (fail)
   have B0:=bgk;have K00:=K0;have K10:=K1;have K20:=K2;have ff0:=f0k
   clear bgk K0 K1 K2 k0 k1 k2 f0k
   refine wp_region_held_drew (S:=fun w'=>Blk w' w.heap.size 32 CS∧w'.cell? ⟨b,off+k*3,none⟩=some (.int .i64 y.b)∧w'.cell? ⟨b,off+k*3+1,none⟩=some (.int .i64 y.s)∧w'.cell? ⟨b,off+k*3+2,none⟩=some (.int .u64 (y.u:Int))) (by kernel_rfl) ⟨B0,K00,K10,K20⟩ (fun hHeld=> ?_)
   clear hHeld
   refine tkH 0 ⟨B0,K00,K10,K20⟩ (h:=tkH 1 ⟨B0,K00,K10,K20⟩ (h:=tkH 2 ⟨B0,K00,K10,K20⟩ (h:=tkH 3 ⟨B0,K00,K10,K20⟩ (h:=tkH 4 ⟨B0,K00,K10,K20⟩ (h:=?_)))))
   simp only [List.set]
   refine oG 5 (fun K hK=> ?_)
   go_simp
   go_wp2_with (go_at_call 37;(with_reducible refine (kpy.out).mono ?_);rintro _ v1 ⟨rfl,fq1⟩;have B1:=B0.fr fq1 zq;have K01:=fq1.cell K00 zq;have K11:=fq1.cell K10 zq;have K21:=fq1.cell K20 zq;have ff1:=ff0.trans fq1 zr)
   refine hK.out _ _ ⟨B1,K01,K11,K21⟩ (fun hZ=> ?_)
   clear hZ hK K
   try simp only [Ad,List.set]
   refine tkH 6 ⟨B1,K01,K11,K21⟩ (h:=?_)
   simp only [List.set]
   refine oD ?_
   go_simp
   clear kpy K00 K10 K20 K01 K11 K21 B0 ff0
   have hfk:Fr Non w0 v1:=hf.drew.trans fq1 zr
   clear hf fq1
   rcases Int.lt_or_le P 0 with hP|hP
   ·
    have t:decide (P≥0)=false:=decide_eq_false (by omega)
    have t2:decide (0≤P)=false:=decide_eq_false (by omega)
    have hn2:Hid (late l (ids.take k)=late l (ids.take (k+1))):=by
     show _=_
     rw [hsn.out,hpn.out hP]
     omega
    clear hsn hpn hpy hat hnn
    go_wp2
    go_roundw
    case rel=>exact ⟨k+1,by go_num,by rw [hn2.out],by omega,hfk⟩
    case measure=>simp [intOf];omega
   ·
    obtain ⟨p,rfl⟩:∃p:Nat,P=(p:Int):=⟨P.toNat,by omega⟩
    have t:decide ((p:Int)≥0)=true:=decide_eq_true (by omega)
    have t2:decide (0≤(p:Int))=true:=decide_eq_true (by omega)
    obtain ⟨m,b2,off2,hm,rfl,cm⟩:=hat.out p (by omega)
    have hn2:Hid (late l (ids.take (k+1))=max (late l (ids.take k)) m.o.at_):=by
     show _=_
     rw [hsn.out,hpy.out p rfl (by omega) m (by rw [Int.toNat_natCast];exact hm)]
    have c1:=(B1.cell 1).trans g1.out
    have cm1:=ff1.cell cm zq
    have p3:(p:Int)<N:=p2
    have p4:(p:Int).toNat=p:=by omega
    have p5:(0:Int)≤p:=by omega
    clear hsn hpn hpy hat hnn hm cm p1 p2 B1
    generalize m.o.at_=ma at*
    generalize late l (ids.take k)=lk at*
    go_wp2
    all_goals
     go_roundw
     case rel=>exact ⟨k+1,by go_num,by rw [hn2.out]<;>(congr 1;omega),by omega,hfk⟩
     case measure=>simp [intOf];omega
  ·
   obtain rfl:k=n:=by omega
   have hR:Hid (late l (ids.take k)=late l ids):=by show _=_;rw [Ak6 (by rw [hn.out];omega)]
   rw [hR.out]
   go_wp2
   go_ret
   exact ⟨rfl,f0.trans hf zr⟩
end Oq
namespace Oq
attribute [local go_sem] Ak8 Ak9
attribute [local go_sem ↓] Fa
def Cl (l:List Id) (w:World) (e:Ending) (w':World):Prop:=∃A c,e=.returned (.slice A l.length c)∧Own w' w.heap.size 38 3 A l.length c (l.flatMap Id.cells)∧Fr Non w w'
theorem Ac6 {l l':List Id} {k:Nat} {y z:Id} (h:l[k]? =some y) (h':l'[k]? =some z) (hk:l.take k=l'.take k) (e:y=z):l.take (k+1)=l'.take (k+1):=by
 rw [Al9,Al9,hk,h,h',e]
theorem Ac7 (B n c B' m c':Nat) (A A':Option Addr) (l l':List Id) (w:World) (hn:Hid (l.length=n)) (hm:Hid (l'.length=m)) (hr:Rd w B 3 A n (l.flatMap Id.cells)) (hr':Rd w B' 3 A' m (l'.flatMap Id.cells)) (hnm:n≤1000000) (R:Bool) (hR:R=true↔l=l'):
  Calls Tryz.prog 20 #[.slice A n c,.slice A' m c'] w (Ae R w):=by
 have hRf:Hid (l≠l'→R=false):=fun h=>by cases R with|false=>rfl|true=>exact absurd (hR.1 rfl) h
 have hRt:Hid (l=l'→R=true):=hR.2
 clear hR
 by_cases hne:n=m
 ·
  subst hne
  have t:((n:Int) !=(n:Int))=false:=by simp
  go_enter Tryz.func20,Tryz.ntmps20
  go_wp2
  go_loopw [5] (fun v wr=>∃k:Nat,v=.int .i64 (k:Int)∧k≤n∧Hid (l.take k=l'.take k)∧Fr Non w wr) (fun v _=>n-(intOf v).toNat)
  case atStart=>exact ⟨0,rfl,by omega,rfl,Fr.refl _ _⟩
  case round=>
   obtain ⟨k,rfl,hk,hh,hf⟩:=hrel
   by_cases hlt:k<n
   ·
    obtain ⟨y,hy⟩:∃y,l[k]? =some y:=⟨_,Ak2 (by rw [hn.out];exact hlt)⟩
    obtain ⟨z,hz⟩:∃y,l'[k]? =some y:=⟨_,Ak2 (by rw [hm.out];exact hlt)⟩
    obtain ⟨b,off,rfl,hbB,k0,k1,k2⟩:=Id.at (hr.fr hf zr) hy
    obtain ⟨b',off',rfl,hbB',g0,g1,g2⟩:=Id.at (hr'.fr hf zr) hz
    have hcase:=Id.eq_iff y z
    have hsn:Hid (y=z→l.take (k+1)=l'.take (k+1)):=Ac6 hy hz hh.out
    have hno:Hid (y≠z→R=false):=fun e=>hRf.out (fun e'=>by rw [e',hz] at hy;injection hy with hy;exact e hy.symm)
    clear hy hz
    have i1:(0:Int)≤k:=by omega
    have i2:(k:Int)<n:=by omega
    have i3:(k:Int).toNat=k:=by omega
    have hm:=J0
    by_cases he:Id.eq y z=true
    ·
     have hfin:=Lib.hid (hsn.out (hcase.1 he))
     clear hsn hno hcase
     go_wp2
     go_quiet (fail)
     go_wp2
     go_roundw
     case rel=>exact ⟨k+1,by go_num,by omega,hfin,hf.drewN _⟩
     case measure=>simp [intOf];omega
    ·
     have hfin:=Lib.hid (hno.out (fun e=>he (hcase.2 e)))
     have he:=Al8 _▸he
     clear hsn hno hcase
     go_wp2
     go_quiet (fail)
     go_wp2
     go_ret
     exact ⟨by rw [hfin.out];rfl,hf.drewN _⟩
   ·
    obtain rfl:k=n:=by omega
    have hfin:Hid (R=true):=by
     have h:=hh.out
     rw [Ak6 (by rw [hn.out];omega),Ak6 (by rw [hm.out];omega)] at h
     exact hRt.out h
    go_wp2
    go_ret
    exact ⟨by rw [hfin.out];rfl,hf⟩
 ·
  have t:((n:Int) !=(m:Int))=true:=by simp;omega
  have hfin:Hid (R=false):=hRf.out (fun e=>hne (by rw [← hn.out,← hm.out,e]))
  go_enter Tryz.func20,Tryz.ntmps20
  go_wp2
  go_ret
  exact ⟨by rw [hfin.out];rfl,Fr.refl _ _⟩
end Oq
end
end Go.Proofs.YtafonabghnogaaaGreatDoor
