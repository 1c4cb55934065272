/- Contracts of functions, walked (part 13).
Conditions: as each theorem says. -/
import Derived.Shelf.SlSortCmp.NoneTotal
import Derived.Shelf.SlSortCmp.WholeK
import Derived.Ground.SlsfProg
import Derived.Ground.NamesProg
import Derived.Shelf.SlGeneric
import Derived.ChangeKeysEq
import Derived.Great.BuildSlice
import Derived.Test.YtmcpnjoomlgmlaaGreatDoorRpM12
set_option maxRecDepth 100000
set_option maxHeartbeats 16000000
open Bool renaming not_false->A63,not_true->A64
open List renaming getElem?_eq_getElem->A59,length_map->A61,getElem?_map->A65,mem_of_getElem?->A66,eq_nil_of_length_eq_zero->A71,pairwise_iff_getElem->A72,not_mem_nil->A73
open Nat renaming zero_add->A60,zero_le->A62,lt_trans->A67,le_refl->A69,le_of_lt->A70
open Go.World renaming size_alloc->A68
open Go.Proofs.Tryz
open Go.Proofs.Tryz renaming prog->zp
open Go.Lib renaming hid->lh
open List renaming set->zl
open Go.Ending renaming returned->ze
namespace Go.Proofs.YtmcpnjoomlgmlaaGreatDoor
section
open Go.RowKit Go.Sort Go.Shelf
namespace Oq
theorem K9 (x y:Id):ltOf Gu x y=Id.less x y:=by
 unfold ltOf Gu
 cases Id.less x y<;>cases Id.less y x<;>rfl
theorem Ao2:SWO (ltOf Gu) where
 irrefl x:=by rw [K9];exact Id.less_irr x
 trans x y z h1 h2:=by
  rw [K9] at*;exact Id.less_tr h1 h2
 ntrans x y z h1 h2:=by
  rw [K9] at*
  rcases Id.less_f h1 with rfl|h1
  · exact h2
  ·
   rcases Id.less_f h2 with rfl|h2
   · exact Id.less_as h1
   · exact Id.less_as (Id.less_tr h2 h1)
end Oq
end
end Go.Proofs.YtmcpnjoomlgmlaaGreatDoor
namespace Go.Proofs
open Go.Shelf Go.RowKit Go.Lib Go.Sort
def Tryz.sortIdents_ren:Go.Shelf.Ren:=⟨fun|6=>97|15=>143|14=>150|28=>174|29=>175|20=>196|21=>197|22=>198|23=>199|24=>200|25=>201|26=>202|27=>203|46=>227|47=>209|48=>210|49=>228|50=>229|57=>237|n=>n,fun|22=>25|24=>45|25=>137|3=>3|39=>170|0=>0|53=>235|55=>43|4=>4|46=>229|45=>228|50=>125|5=>5|9=>9|66=>257|70=>106|76=>267|77=>268|n=>n,fun|n=>n⟩
theorem Tryz.sortIdents:Go.Proofs.SlLaysF0.n6 zp Tryz.sortIdents_ren:={
  mixed:=by kernel_rfl
  f6:=⟨Tryz.f97.name,by decide,Tryz.func97.trans (congrArg some (by kernel_rfl))⟩
  f14:=⟨Tryz.f150.name,by decide,Tryz.func150.trans (congrArg some (by kernel_rfl))⟩
  f15:=Tryz.func143.trans (congrArg some (by kernel_rfl))
  f20:=⟨Tryz.f196.name,by decide,Tryz.func196.trans (congrArg some (by kernel_rfl))⟩
  f21:=⟨Tryz.f197.name,by decide,Tryz.func197.trans (congrArg some (by kernel_rfl))⟩
  f22:=⟨Tryz.f198.name,by decide,Tryz.func198.trans (congrArg some (by kernel_rfl))⟩
  f23:=⟨Tryz.f199.name,by decide,Tryz.func199.trans (congrArg some (by kernel_rfl))⟩
  f24:=⟨Tryz.f200.name,by decide,Tryz.func200.trans (congrArg some (by kernel_rfl))⟩
  f25:=⟨Tryz.f201.name,by decide,Tryz.func201.trans (congrArg some (by kernel_rfl))⟩
  f26:=⟨Tryz.f202.name,by decide,Tryz.func202.trans (congrArg some (by kernel_rfl))⟩
  f27:=⟨Tryz.f203.name,by decide,Tryz.func203.trans (congrArg some (by kernel_rfl))⟩
  f28:=Tryz.func174.trans (congrArg some (by kernel_rfl))
  f29:=Tryz.func175.trans (congrArg some (by kernel_rfl))
  f46:=⟨Tryz.f227.name,by decide,Tryz.func227.trans (congrArg some (by kernel_rfl))⟩
  f47:=Tryz.func209.trans (congrArg some (by kernel_rfl))
  f48:=Tryz.func210.trans (congrArg some (by kernel_rfl))
  f49:=⟨Tryz.f228.name,by decide,Tryz.func228.trans (congrArg some (by kernel_rfl))⟩
  f50:=⟨Tryz.f229.name,by decide,Tryz.func229.trans (congrArg some (by kernel_rfl))⟩
  f57:=⟨Tryz.f237.name,by decide,Tryz.func237.trans (congrArg some (by kernel_rfl))⟩
  t0:=underlying0
  a0:=isAgg0
  z0:=sizeOf0
  v0:=zeroValue0
  t3:=underlying3
  a3:=isAgg3
  z3:=sizeOf3
  v3:=zeroValue3
  t4:=underlying4
  a4:=isAgg4
  z4:=sizeOf4
  v4:=zeroValue4
  t5:=underlying5
  a5:=isAgg5
  z5:=sizeOf5
  v5:=zeroValue5
  t9:=underlying9
  a9:=isAgg9
  z9:=sizeOf9
  v9:=zeroValue9
  t22:=underlying25
  a22:=isAgg25
  z22:=sizeOf25
  v22:=zeroValue25
  t25:=underlying137
  a25:=isAgg137
  z25:=sizeOf137
  v25:=zeroValue137
  t39:=underlying170
  a39:=isAgg170
  z39:=sizeOf170
  v39:=zeroValue170
  t45:=underlying228
  a45:=isAgg228
  z45:=sizeOf228
  v45:=zeroValue228
  t46:=underlying229
  a46:=isAgg229
  z46:=sizeOf229
  v46:=zeroValue229
  t50:=underlying125
  a50:=isAgg125
  z50:=sizeOf125
  v50:=zeroValue125
  t53:=underlying235
  a53:=isAgg235
  z53:=sizeOf235
  v53:=zeroValue235
  t55:=underlying43
  a55:=isAgg43
  z55:=sizeOf43
  v55:=zeroValue43
  t66:=underlying257
  a66:=isAgg257
  z66:=sizeOf257
  v66:=zeroValue257
  t70:=underlying106
  a70:=isAgg106
  z70:=sizeOf106
  v70:=zeroValue106
  t76:=underlying267
  a76:=isAgg267
  z76:=sizeOf267
  v76:=zeroValue267
  t77:=underlying268
  a77:=isAgg268
  z77:=sizeOf268
  v77:=zeroValue268}
end Go.Proofs
namespace Go.Proofs.YtmcpnjoomlgmlaaGreatDoor
open Go.RowKit
attribute [local go_sem ↓] Go.wp_at_zero Go.wp_at_succ
section
open Go.RowKit Go.Sort Go.Shelf
namespace Oq
theorem Ao3 (blk off size:Nat) (w:World):CmpLays zp 149 #[] Id.cells 3 Gu blk off size w:=
 fun _ _ _ _ x y=>Za x y _
theorem T3:Ny:=by
 intro base A c xs w hown hlen
 by_cases h0:xs.length=0
 ·
  have hx:xs=[]:=A71 h0;subst hx;have hcon:=AnyF.slices_SortFunc_none Tryz.sortIdents A c (.func (.func 149) #[] #[]) w;refine Calls.mono hcon ?_;rintro e w' ⟨rfl,rfl⟩;exact ⟨rfl,[],List.Perm.refl _,List.Pairwise.nil,hown,Fr.refl _ _⟩
 ·
  obtain ⟨g,rfl⟩:∃g,A=some ⟨g,0,none⟩:=by
   rcases hown.2 with ⟨_,hn⟩|⟨g,cap,cur,hv,_⟩
   · exact absurd hn h0
   ·
    injection hv with hA _ _
    exact ⟨g,hA⟩
  have hrow:=hown.row g rfl;have eg:∀args w,(callFunc 149 args).run zp w=.ok (.enter 149 args) w:=enters_of func149 (by kernel_rfl) rfl;have hcon:=AnyQ.slices_SortFunc Tryz.sortIdents 3 isAgg45 sizeOf45 Id.cells (fun _=>rfl) (fun x v hv=>by simp [Id.cells] at hv;rcases hv with rfl|rfl|rfl<;>rfl) Gu Ao2 149 #[] g 0 c xs.toArray w eg (Ao3 g 0 _ w) (Ao0 hown) hrow.2 (by simp;omega)
  refine Calls.mono hcon ?_;rintro e w' ⟨rfl,d',n,os,hp,hs,rfl⟩;have hds:d'.size=xs.length:=by rw [hp.1];simp
  have hperm:d'.toList.Perm xs:=by
   have h1:=hp.2.2
   have e1:d'.extract 0 xs.toArray.size=d':=by
    rw [show xs.toArray.size=d'.size from hp.1.symm];simp
   have e2:xs.toArray.extract 0 xs.toArray.size=xs.toArray:=by simp
   rw [e1,e2] at h1;simpa using h1
  refine ⟨rfl,d'.toList,hperm,?_,?_,?_⟩
  ·
   rw [A72];intro i j hi hj hij;have h1:=hs i j (A62 _) hij (by rw [<- hp.1];simpa using hj);rw [K9] at h1;have hi':i<d'.size:=by simpa using hi
   have hj':j<d'.size:=by simpa using hj
   rw [getElem!_pos d' i hi',getElem!_pos d' j hj'] at h1;simpa using h1
  ·
   have h1:=Ao1 (ys:=d'.toList) n os hown (by omega) (by simpa using hds);simpa using h1
  · exact (T0 w g n _ os).mono (fun k hk e=>by have e':k=g:=e;subst e';rfl)
end Oq
end
section
open Go.RowKit Go.Sort
namespace Oq
attribute [local go_sem] A63 A64
theorem Ao4 {w:World} {g:Nat} {t:TypeId} {ws:List Nat} (h:Blk w g t (ws.map Uv).toArray) (hl:ws.length=4):Ht w g 0 ws:=fun j hj=>by
 rw [h.cell,A60,List.getElem?_toArray,A65,A59 (by omega)];simp [Uv,List.getD,A59 (show j<ws.length by omega)]
theorem Ao5 {w:World} {g k i v:Nat} {t:TypeId} {ws:List Nat} (h:Blk w g t (ws.map Uv).toArray):Blk ((w.drewN k).setCell ⟨g,i,none⟩ (.int .u64 (v:Int))) g t ((ws.set i v).map Uv).toArray:=by
 have h1:=(h.drewN k).set i (.int .u64 (v:Int));rw [List.map_set];have e:(ws.map Uv).toArray.setIfInBounds i (.int .u64 (v:Int))=((ws.map Uv).set i (Uv v)).toArray:=by simp [Uv]
 rw [<- e];exact h1
end Oq
end
namespace Oq
attribute [local go_sem] A63 A64
structure LSt (w wr:World) (x y:OpL) (gs pb:Nat) (PW:List Nat) (a0 a1 a2 a3 lv:Nat):Prop where
 bx:Blk wr w.heap.size 52 x.cells
 bn:Blk wr gs 134 (⟨y,x.op.name,0,0,0,0,lv⟩:Aj).cells.toArray
 bp:Blk wr pb 132 (PW.map Uv).toArray
 ba:Blk wr (pb+1) 132 #[.int .u64 (a0:Int),.int .u64 (a1:Int),.int .u64 (a2:Int),.int .u64 (a3:Int)]
 yown:y.own wr w.heap.size
 fr:Fr Non w wr
 lo1:w.heap.size<gs
 lo2:gs<pb
section
variable {w wr w' : World} {x y : OpL} {gs pb : Nat} {PW : List Nat} {a0 a1 a2 a3 lv : Nat}
theorem LSt.non (L:LSt w wr x y gs pb PW a0 a1 a2 a3 lv) (hf:Fr Non wr w'):LSt w w' x y gs pb PW a0 a1 a2 a3 lv:=
 ⟨L.bx.fr hf zq,L.bn.fr hf zq,L.bp.fr hf zq,L.ba.fr hf zq,L.yown.non hf,L.fr.trans hf zr,L.lo1,L.lo2⟩
theorem LSt.par (L:LSt w wr x y gs pb PW a0 a1 a2 a3 lv) {PW':List Nat} (hf:Fr (One pb) wr w') (hb:Blk w' pb 132 (PW'.map Uv).toArray):LSt w w' x y gs pb PW' a0 a1 a2 a3 lv:=by
 have h1:=L.lo1;have h2:=L.lo2;exact ⟨L.bx.fr hf (by unfold One;omega),L.bn.fr hf (by unfold One;omega),hb,L.ba.fr hf (by unfold One;omega),L.yown.keepP hf (Types.one L.bp) (by decide) (by decide) (by decide) (by decide) (by decide) (by decide) (by decide),L.fr.trans hf (fun k hk e=>by have e':k=pb:=e;omega),h1,h2⟩
theorem LSt.abv (L:LSt w wr x y gs pb PW a0 a1 a2 a3 lv) {b0 b1 b2 b3:Nat} (hf:Fr (One (pb+1)) wr w') (hb:Blk w' (pb+1) 132 #[.int .u64 (b0:Int),.int .u64 (b1:Int),.int .u64 (b2:Int),.int .u64 (b3:Int)]):LSt w w' x y gs pb PW b0 b1 b2 b3 lv:=by
 have h1:=L.lo1;have h2:=L.lo2;exact ⟨L.bx.fr hf (by unfold One;omega),L.bn.fr hf (by unfold One;omega),L.bp.fr hf (by unfold One;omega),hb,L.yown.keepP hf (Types.one L.ba) (by decide) (by decide) (by decide) (by decide) (by decide) (by decide) (by decide),L.fr.trans hf (fun k hk e=>by have e':k=pb+1:=e;omega),h1,h2⟩
theorem LSt.lev (L:LSt w wr x y gs pb PW a0 a1 a2 a3 lv) (lv':Nat):LSt w (wr.setCell ⟨gs,34,none⟩ (.int .i64 (lv':Int))) x y gs pb PW a0 a1 a2 a3 lv':=by
 have h1:=L.lo1;have h2:=L.lo2;have hf:=(Fr.refl (One gs) wr).setOne 34 (.int .i64 (lv':Int));exact ⟨L.bx.fr hf (by unfold One;omega),L.bn.set 34 _,L.bp.fr hf (by unfold One;omega),L.ba.fr hf (by unfold One;omega),L.yown.keepP hf (Types.one L.bn) (by decide) (by decide) (by decide) (by decide) (by decide) (by decide) (by decide),L.fr.trans hf (fun k hk e=>by have e':k=gs:=e;omega),h1,h2⟩
end
structure CSt (w wr:World) (base:Nat) (g:Gph) (x y:OpL) (gs pb:Nat) (PW:List Nat) (a0 a1 a2 a3 lv:Nat) (lt:Int) (wa:World):Prop where
 A:N2 w wa base g x y gs
 L:LSt w wr x y gs pb PW a0 a1 a2 a3 lv
 par:Bg PW (C8 g.pns x.op.past)
 abv:Bg [a0,a1,a2,a3] (Cn g.pns x.op.past)
 hlt:lt=late g.pns x.op.past
 hlv:lv=lvl g.pns x.op.past
def addC:PSigma (fun P:Prop=>PLift P->addB.1):=PSigma.mk _ (by
 intro hP;conv=>whnf
 intro t5 t7 t8 t9 t10 t11 t12 t13 t14 t15 t16 t17 t18 t19 t20 t21 t22 t23 t24 t25 t26 t27 t28 t29 t30 t31 t32 t33 t34 t35 t36 t37 t38 t39 t40 t41 t42 t43 t44 t45 t46 t47 t48 t49 t50 t51 t52 t53 t54 t55 t56 t57 t58 t59 t60 t61 t62 t63 t64 t65 t66 t67 t68 t69 t70 t71 t72 t79 t80 t81 t82 t83 t84 t85 t86 t87 t88 t89 t90 t91 t92 t93 t94 t95 t96 t97 t98 t99 t100 t101 t102 t103 t104 t105 t106 t107 t108 t109 t110 t111 t112 t113 t114 t115 t116 t117 t118 t119 t120 t121 t122 t123 t124 t125 t126 t127 t128 t129 t130 t131 t132 t133 t134 t135 t136 t137 t138 t139 t140 t141 t142 t143 t144 t145 t146 t147 t148 t149 t150 t151 t152 t153 t154 t155 t156 t157 t158 t159 t160 t161 t162 t163 t164 t165 t166 t167 t168 t169 t170 t171 t172 t173 t174 t175 t176 t177 t178 t179 t180 t181 t182 t183 t184 t185 t186 t187 t188 t189 t190 t191 t192 t193 t194 t195 t196 t197 t198 t199 t200 t201 t202 t203 t204 t205 t206 t207 t208 t209 t210 t211 t212 t213 t214 t215 t216 t217 t218 t219 t220 t221 t222 t223 t224 t225 t226 t227 t228 t229 t230 t231 t232 t233 base g x w y gs hgw lpast m w6 A6 c6 K hK H;have hg:=H.hg;have hok:=H.hok;have hat:=H.hat;have hlen:=hg.few;have hall:=lh H.all;have hH:=lh H;have hpo:x.op.past=x.past:=rfl;obtain ⟨n,hn⟩:=Ab x.past.length;have hnm:n<=1000:=by have h:=hok.past.1;rw [show x.op.past=x.past from rfl,hn.out] at h;exact h
 have L0:LSt w ((w6.alloc (.cells #[.int .u64 0,.int .u64 0,.int .u64 0,.int .u64 0] 132)).alloc (.cells #[.int .u64 0,.int .u64 0,.int .u64 0,.int .u64 0] 132)) x y gs w6.heap.size [0,0,0,0] 0 0 0 0 1:=by
  have f1:Fr Non w6 ((w6.alloc (.cells #[.int .u64 0,.int .u64 0,.int .u64 0,.int .u64 0] 132)).alloc (.cells #[.int .u64 0,.int .u64 0,.int .u64 0,.int .u64 0] 132)):=((Fr.refl Non w6).alloc _).alloc _;have b2:=Blk.new (w6.alloc (.cells #[.int .u64 0,.int .u64 0,.int .u64 0,.int .u64 0] 132)) 132 #[.int .u64 0,.int .u64 0,.int .u64 0,.int .u64 0];rw [A68] at b2;exact ⟨H.bx.fr f1 zq,H.bn.fr f1 zq,(Blk.new w6 132 #[.int .u64 0,.int .u64 0,.int .u64 0,.int .u64 0]).alloc _,b2,H.yown.non f1,H.fr.trans f1 zr,hgw,H.bn.lt⟩
 obtain ⟨CX,a8⟩:=Ab x.cells;have e4:Hid (CX[4]? =some (.slice x.pastA n x.pastC)):=by show _=_;rw [<- a8.out,<- hn.out];rfl
 have x4:((w6.alloc (.cells #[.int .u64 0,.int .u64 0,.int .u64 0,.int .u64 0] 132)).alloc (.cells #[.int .u64 0,.int .u64 0,.int .u64 0,.int .u64 0] 132)).cell? ⟨w.heap.size,4,none⟩=some (.slice x.pastA n x.pastC):=by
  have h:=L0.bx.cell 4;rw [a8.out,e4.out] at h;exact h
 rw [a8.out];clear hpo H;go_upto_region 20 with (fail)
 generalize (w6.alloc (.cells #[.int .u64 0,.int .u64 0,.int .u64 0,.int .u64 0] 132)).alloc (.cells #[.int .u64 0,.int .u64 0,.int .u64 0,.int .u64 0] 132)=w7 at*;obtain ⟨pb,bz⟩:=Ab w6.heap.size;rw [bz.out] at L0 ⊢;go_wp2_with fail
 go_loopw [13,82] (fun tv v wr=>∃(k:Nat) (PW:List Nat) (a0 a1 a2 a3 lv:Nat) (lt:Int),tv=.int .i64 lt/\v=.int .i64 (k:Int)/\k<=n/\Hid (Bg PW (C8 g.pns (x.past.take k)))/\Hid (Bg [a0,a1,a2,a3] (Cn g.pns (x.past.take k)))/\Hid (lt=late g.pns (x.past.take k))/\Hid (lv=lvl g.pns (x.past.take k))/\Hid (LSt w wr x y gs pb PW a0 a1 a2 a3 lv)) (fun _ v _=>n-(intOf v).toNat)
 case atStart=>exact ⟨0,[0,0,0,0],0,0,0,0,1,0,rfl,rfl,by omega,Bg.empty,Bg.empty,rfl,rfl,L0⟩
 case round=>
  obtain ⟨k,PW,a0,a1,a2,a3,lv,lt,rfl,rfl,hk,ak,ar,ay,a6,hL⟩:=hrel
  by_cases hkn:k<n
  ·
   clear hP L0 x4
   as_aux_lemma=>
   have L:=hL.out;obtain ⟨i1,i2,i3⟩:=ix k n
   obtain ⟨id,hid⟩:∃z,x.past[k]? =some z:=⟨_,A59 (by rw [hn.out];exact hkn)⟩;have ax:id.ok:=hok.past.2 id (A66 hid)
   obtain ⟨i,ap⟩:∃i,plc g.pns id=some i:=by
    have h1:=hall.out;rw [List.any_eq_false] at h1;have h2:=h1 id (A66 hid)
    cases h3:plc g.pns id with
    |none=>rw [h3] at h2;exact absurd rfl h2
    |some i=>exact ⟨i,rfl⟩
   have al:place g.nodes id=some i:=by rw [<- ap];exact (Gv g.nodes id).symm
   obtain ⟨nd,aq,_⟩:=Ip al;have b5:i<g.nodes.length:=(List.getElem?_eq_some_iff.1 aq).1;have aj:i<256:=by omega
   have bc:g.pns[i]? =some nd.pn:=by unfold Gph.pns;rw [A65,aq];rfl
   have ad:Hid (Bg [nd.a0,nd.a1,nd.a2,nd.a3] nd.past):=(hg.node nd (A66 aq)).set;have bw:=hg.levs nd (A66 aq)
   have ai:Hid (C8 g.pns (x.past.take (k+1))=fun q=>q==i||C8 g.pns (x.past.take k) q):=by
    show _=_;rw [Ae1 g.pns x.past k hid,ap];funext q;congr 1
    by_cases h:q=i
    · subst h;simp
    ·
     have h':¬i=q:=fun e=>h e.symm;simp only [beq_eq_false_iff_ne.2 h];exact beq_eq_false_iff_ne.2 (fun e=>h' (Option.some.inj e))
   have ah:Hid (Cn g.pns (x.past.take (k+1))=fun q=>Cn g.pns (x.past.take k) q||nd.past q):=by
    show _=_;rw [Ae2 g.pns x.past k hid];funext q;unfold upB;rw [ap];simp only [bc];rfl
   have a5:Hid (late g.pns (x.past.take (k+1))=max (late g.pns (x.past.take k)) nd.x.at_):=by
    show _=_;rw [Sn g.pns x.past k hid];unfold Ct;rw [ap];simp only [bc];rfl
   have au:Hid (lvl g.pns (x.past.take (k+1))=max (lvl g.pns (x.past.take k)) (nd.lev+1)):=by
    show _=_;rw [Ae3 g.pns x.past k hid];unfold Ao;rw [ap];simp only [bc];rfl
   obtain ⟨b,ca,hA,b9,d0,d1,d2⟩:=Id.at (hat.past.1.fr L.fr zr) hid;obtain ⟨bn,aa,bi,b6,ag⟩:=hg.cell aq
   have az:∀w',MapAt w' g.mb g.mm (place g.nodes)->(Instr.lookup 126 (.map (some g.mb)) (.agg id.V) false).run zp w'=.ok (.int .i64 (i:Int)) w':=fun w' h=>by
    have h1:=MapAt.look1 h id ax;rw [al] at h1;exact h1
   have ab:Hid (∀wv,Fr Non w wv->wv.cell? ⟨g.gb,1,none⟩=some (.map (some g.mb))/\wv.cell? ⟨g.gb,2,none⟩=some (.slice (some ⟨bn,aa,none⟩) g.nodes.length g.nC)/\MapAt wv g.mb g.mm (place g.nodes)/\
     wv.cell? ⟨bn,aa+i*35+3,none⟩=some (.int .i64 nd.x.at_)/\wv.cell? ⟨bn,aa+i*35+34,none⟩=some (.int .i64 (nd.lev:Int))/\
     wv.cell? ⟨bn,aa+i*35+30,none⟩=some (.int .u64 (nd.a0:Int))/\wv.cell? ⟨bn,aa+i*35+30+1,none⟩=some (.int .u64 (nd.a1:Int))/\wv.cell? ⟨bn,aa+i*35+30+2,none⟩=some (.int .u64 (nd.a2:Int))/\wv.cell? ⟨bn,aa+i*35+30+3,none⟩=some (.int .u64 (nd.a3:Int))):=by
    intro wv hf;have bh:=hg.fr hf;have hc:∀j,j<35->∀u,nd.cells[j]? =some u->wv.cell? ⟨bn,aa+i*35+j,none⟩=some u:=fun j hj u hu=>hf.cell (ag j hj u hu) zq;refine ⟨bh.blk.cell 1,?_,bh.map,hc 3 (by omega) _ rfl,hc 34 (by omega) _ rfl,hc 30 (by omega) _ rfl,hc 31 (by omega) _ rfl,hc 32 (by omega) _ rfl,hc 33 (by omega) _ rfl⟩;rw [<- bi];exact bh.blk.cell 2
   have b1:g.gb<w.heap.size:=hg.blk.lt;have b0:g.mb<w.heap.size:=hg.map.lt;have L1:=L.non ((Fr.refl Non wr).alloc (.cells id.V 45));have a4:=Blk.new wr 45 id.V;have bg:pb<wr.heap.size:=L.bp.lt;rw [hA];replace hA:=lh hA;replace bi:=lh bi;obtain ⟨j1,j2,j3⟩:=ix i g.nodes.length
   have j4:=iw (i:Int);clear hid ap al aq bc ag hall L b9 hg hat hok b5;go_upto_region 24 with (fail)
   obtain ⟨ib,b3⟩:=Ab wr.heap.size;rw [b3.out] at a4 bg ⊢;generalize wr.alloc (.cells id.V 45)=w1 at*;have i4:w1.cell? ⟨ib,0,none⟩=some (.int .i64 id.b):=a4.cell 0;have i5:w1.cell? ⟨ib,1,none⟩=some (.int .i64 id.s):=a4.cell 1;have i6:w1.cell? ⟨ib,2,none⟩=some (.int .u64 (id.u:Int)):=a4.cell 2;obtain ⟨c1,c2,ac,-⟩:=ab.out w1 L1.fr;generalize g.nodes.length=nn at*;refine wp_region_held_drew (S:=(fun w'=>w'.cell? ⟨ib,0,none⟩=some (.int .i64 id.b)/\w'.cell? ⟨ib,1,none⟩=some (.int .i64 id.s)/\w'.cell? ⟨ib,2,none⟩=some (.int .u64 (id.u:Int))/\w'.cell? ⟨g.gb,1,none⟩=some (.map (some g.mb))/\w'.cell? ⟨g.gb,2,none⟩=some (.slice (some ⟨bn,aa,none⟩) nn g.nC)/\MapAt w' g.mb g.mm (place g.nodes))) (by kernel_rfl) ⟨i4,i5,i6,c1,c2,ac⟩ (fun hS=> ?_);refine tkN 0 12 hS (h:=?_);refine oD ?_;go_simp;clear hS c2;have L2:=L1.non ((Fr.refl Non w1).drew);replace i4:w1.drew.cell? ⟨ib,0,none⟩=some (.int .i64 id.b):=i4;replace i5:w1.drew.cell? ⟨ib,1,none⟩=some (.int .i64 id.s):=i5;replace i6:w1.drew.cell? ⟨ib,2,none⟩=some (.int .u64 (id.u:Int)):=i6;replace c1:w1.drew.cell? ⟨g.gb,1,none⟩=some (.map (some g.mb)):=c1;replace ac:MapAt w1.drew g.mb g.mm (place g.nodes):=ac;clear L1 a4;go_upto_region 25 with (fail)
   generalize w1.drew=w2 at*;refine wp_region_held_drew (S:=(fun w'=>w'.cell? ⟨ib,0,none⟩=some (.int .i64 id.b)/\w'.cell? ⟨ib,1,none⟩=some (.int .i64 id.s)/\w'.cell? ⟨ib,2,none⟩=some (.int .u64 (id.u:Int))/\w'.cell? ⟨g.gb,1,none⟩=some (.map (some g.mb))/\MapAt w' g.mb g.mm (place g.nodes))) (by kernel_rfl) ⟨i4,i5,i6,c1,ac⟩ (fun hS=> ?_);refine tkN 0 6 hS (h:=?_);have L3:=L2.non ((Fr.refl Non w2).drew);have ae:w2.drew.cell? ⟨ib,0,none⟩=some (.int .i64 id.b)/\w2.drew.cell? ⟨ib,1,none⟩=some (.int .i64 id.s)/\w2.drew.cell? ⟨ib,2,none⟩=some (.int .u64 (id.u:Int)):=⟨i4,i5,i6⟩;clear L2 hS i4 i5 i6 c1 ac;obtain ⟨w3,bo⟩:=Ab w2.drew;rw [bo.out] at L3 ae ⊢;have af:=Ao4 L3.bp ak.out.len;have bq:∀j,j<4->w3.frozen? ⟨pb,0+j,none⟩=false:=fun j _=>L3.bp.frozen _;have kp:=lh (Zl pb 0 PW (C8 g.pns (x.past.take k)) i w3 ak.out af bq aj)
   have bj:Hid (∀qq,LSt w ((w3.drewN qq).setCell ⟨pb,0+i/64,none⟩ (.int .u64 ((PW.getD (i/64) 0|||2^(i%64):Nat):Int))) x y gs pb (PW.set (i/64) (PW.getD (i/64) 0|||2^(i%64))) a0 a1 a2 a3 lv/\Fr (One pb) w3 ((w3.drewN qq).setCell ⟨pb,0+i/64,none⟩ (.int .u64 ((PW.getD (i/64) 0|||2^(i%64):Nat):Int)))):=by
    intro qq;have hf:Fr (One pb) w3 ((w3.drewN qq).setCell ⟨pb,0+i/64,none⟩ (.int .u64 ((PW.getD (i/64) 0|||2^(i%64):Nat):Int))):=((Fr.refl (One pb) w3).drewN qq).setCell (p:=⟨pb,0+i/64,none⟩) (fun _=>rfl) _;exact ⟨L3.par hf (by rw [A60];exact Ao5 L3.bp),hf⟩
   have a7:Hid (Bg (PW.set (i/64) (PW.getD (i/64) 0|||2^(i%64))) (C8 g.pns (x.past.take (k+1)))):=by
    show Bg _ _;rw [ai.out];exact Bg.put ak.out aj
   generalize PW.set (i/64) (PW.getD (i/64) 0|||2^(i%64))=PW2 at*;generalize PW.getD (i/64) 0|||2^(i%64)=nv at*;clear af bq L3 ak ai hL;refine oG 6 (fun K hK=> ?_);go_simp;go_wp2_with (go_at_call 91;(with_reducible refine (kp.out).mono ?_);rintro _ w4 ⟨rfl,qq,br⟩;have bt:=bj.out qq;rw [<- br] at bt;clear br bj);obtain ⟨L4,bb⟩:=bt;refine hK.out _ _ ⟨bb.cell ae.1 (by show ¬ib=pb;omega),bb.cell ae.2.1 (by show ¬ib=pb;omega),bb.cell ae.2.2 (by show ¬ib=pb;omega),(ab.out w4 L4.fr).1,(ab.out w4 L4.fr).2.2.1⟩ (fun hZ=> ?_);clear hZ hK K kp bb ae bo w3;try simp only [Ah,zl]
   refine oD ?_;go_simp;clear az;obtain ⟨-,-,-,-,-,m0,m1,m2,m3⟩:=ab.out w4 L4.fr
   have af:Ht w4 (pb+1) 0 [a0,a1,a2,a3]:=fun j hj=>by
    rw [L4.ba.cell]
    match j,hj with
    |0,_=>rfl
    |1,_=>rfl
    |2,_=>rfl
    |3,_=>rfl
   have kw:=lh (Qs (pb+1) 0 132 #[.int .u64 (a0:Int),.int .u64 (a1:Int),.int .u64 (a2:Int),.int .u64 (a3:Int)] [a0,a1,a2,a3] nd.a0 nd.a1 nd.a2 nd.a3 (Cn g.pns (x.past.take k)) nd.past w4 ar.out ad.out L4.ba af)
   have av:Hid (Bg [a0|||nd.a0,a1|||nd.a1,a2|||nd.a2,a3|||nd.a3] (Cn g.pns (x.past.take (k+1)))):=by
    show Bg _ _;rw [ah.out];exact Bg.or ar.out ad.out
   have bk:Hid (∀w5,Blk w5 (pb+1) 132 (J5 #[.int .u64 (a0:Int),.int .u64 (a1:Int),.int .u64 (a2:Int),.int .u64 (a3:Int)] 0 (orW [a0,a1,a2,a3] [nd.a0,nd.a1,nd.a2,nd.a3]))->Fr (One (pb+1)) w4 w5->LSt w w5 x y gs pb PW2 (a0|||nd.a0) (a1|||nd.a1) (a2|||nd.a2) (a3|||nd.a3) lv):=fun w5 hb hf=>L4.abv hf hb;clear af ar ad L4 ah;go_upto_region 27 with (go_at_call 92;go_loud (with_reducible refine (kw.out).mono ?_);rintro _ w5 ⟨rfl,bv,bm⟩;have L5:=bk.out w5 bv bm;clear bv bm bk kw m0 m1 m2 m3)
   obtain ⟨-,-,-,q3,bu,-,-,-,-⟩:=ab.out w5 L5.fr;obtain ⟨bl,a9⟩:=Ab (max lt nd.x.at_)
   have bf:Hid (bl=late g.pns (x.past.take (k+1))):=by
    show _=_;rw [a5.out,<- a9.out,<- ay.out]
   clear a5 ay;go_upto_region 28 with (fail)
   clear q3;have s1:w5.cell? ⟨gs,34,none⟩=some (.int .i64 (lv:Int)):=L5.bn.cell 34;have aw:=iw ((nd.lev:Int)+1);obtain ⟨bd,ao⟩:=Ab (max lv (nd.lev+1))
   have be:Hid (bd=lvl g.pns (x.past.take (k+1))):=by
    show _=_;rw [au.out,<- ao.out,<- a6.out]
   have bs:Hid (max (lv:Int) ((nd.lev:Int)+1)=(bd:Int)):=by
    show _=_;rw [<- ao.out];omega
   clear au a6 ao;refine Cv (S:=(fun w'=>w'.cell? ⟨gs,34,none⟩=some (.int .i64 (lv:Int))/\w'.cell? ⟨bn,aa+i*35+34,none⟩=some (.int .i64 (nd.lev:Int)))) 9 (by kernel_rfl) ?_;have hS:(fun w'=>w'.cell? ⟨gs,34,none⟩=some (.int .i64 (lv:Int))/\w'.cell? ⟨bn,aa+i*35+34,none⟩=some (.int .i64 (nd.lev:Int))) w5.drew:=⟨s1,bu⟩;have L6:=L5.non ((Fr.refl Non w5).drew);obtain ⟨w6,b4⟩:=Ab w5.drew;rw [b4.out] at hS L6 ⊢;refine tkM 0 9 hS (h:=?_);have b8:w6.frozen? ⟨gs,34,none⟩=false:=L6.bn.frozen 34;replace s1:w6.cell? ⟨gs,34,none⟩=some (.int .i64 (lv:Int)):=hS.1;clear hS L5 bu;refine Cp (by kernel_rfl) ?_;refine stT 9 (h:=?_);refine oD ?_;go_simp;have L7:=L6.lev bd;rw [<- bs.out] at L7;clear L6 b8 s1 aw bs;go_wp2_with fail;go_roundw
   case rel=>exact ⟨k+1,PW2,a0|||nd.a0,a1|||nd.a1,a2|||nd.a2,a3|||nd.a3,bd,bl,congrArg _ a9.out,by go_num,by omega,a7,av,bf,be,L7⟩
   case measure=>simp [intOf];omega
  ·
   obtain rfl:n=k:=by omega
   have ht:x.past.take n=x.op.past:=List.take_of_length_le (by rw [hn.out];exact A69 _);rw [ht] at ak ar ay a6;have C:CSt w wr base g x y gs pb PW a0 a1 a2 a3 lv lt w6:=⟨hH.out,hL.out,ak.out,ar.out,ay.out,a6.out⟩;clear ak ar ay a6 hL hH hall L0 x4 e4 hlen hat hok hg ht hk hkn bz hn hnm hgw lpast;have b7:=a8.out;subst b7;clear a8;go_upto_region 30 with (fail)
   rename_i QQ KB hKB K2 hK2;clear hKB KB QQ;revert C;revert hK2;revert base g x w y gs w6 w7 wr pb PW a0 a1 a2 a3 lv lt n A6 c6 m K2;revert t5 t7 t8 t9 t10 t14 t17 t18 t19 t20 t21 t22 t23 t24 t25 t26 t27 t28 t29 t30 t31 t32 t33 t34 t35 t36 t37 t38 t39 t40 t41 t42 t43 t44 t45 t46 t47 t48 t49 t50 t51 t52 t53 t54 t55 t56 t57 t58 t59 t60 t61 t62 t63 t64 t65 t66 t67 t68 t69 t70 t71 t72 t126 t127 t128 t129 t130 t131 t132 t133 t134 t135 t136 t137 t138 t139 t140 t141 t142 t143 t144 t145 t146 t147 t148 t149 t150 t151 t152 t153 t154 t155 t156 t157 t158 t159 t160 t161 t162 t163 t164 t165 t166 t167 t168 t169 t170 t171 t172 t173 t174 t175 t176 t177 t178 t179 t180 t181 t182 t183 t184 t185 t186 t187 t188 t189 t190 t191 t192 t193 t194 t195 t196 t197 t198 t199 t200 t201 t202 t203 t204 t205 t206 t207 t208 t209 t210 t211 t212 t213 t214 t215 t216 t217 t218 t219 t220 t221 t222 t223 t224 t225 t226 t227 t228 t229 t230 t231 t232 t233 u15 u16 u84 u85 u86 u87 u88 u89 u90 u91 u92 u93 u94 u95 u96 u97 u98 u99 u100 u101 u102 u103 u104 u105 u106 u107 u108 u109 u110 u111 u112 u113 u114 u115 u116 u117 u118 u119 u120 u121 u122 u123 u124 u125;exact hP.down)
theorem Ao6 (a0 a1 a2 a3 b0 b1 b2 b3:Int) (w:World):(Op.equalIn 10000 132 (.agg #[.int .u64 a0,.int .u64 a1,.int .u64 a2,.int .u64 a3]) (.agg #[.int .u64 b0,.int .u64 b1,.int .u64 b2,.int .u64 b3])).run zp w=.ok (a0==b0&&a1==b1&&a2==b2&&a3==b3) w:=by
 obtain ⟨ht,hinfo,_⟩:=Mn;obtain ⟨i,hi,_⟩:=info_parts hinfo;rw [show (10000:Nat)=9999+1 from rfl,run_equalIn_array w 9999 _ _ underlying132 hi,Ql,show List.range 4=[0,1,2,3] from rfl];simp only [Op.eqItems];go_simp
 by_cases h1:a0=b0<;>by_cases h2:a1=b1<;>by_cases h3:a2=b2<;>by_cases h4:a3=b3<;>simp [h1,h2,h3,h4]
theorem Ao7:zp.eqGuardType zp.depth 132=false:=by kernel_rfl
theorem La (b:Nat):((b:Int)==0)=(b==0):=by
 rw [Bool.eq_iff_iff,beq_iff_eq,beq_iff_eq];omega
structure DSt (w wr:World) (base:Nat) (g:Gph) (x y:OpL) (gs:Nat) (n0 n1 n2 n3 lv:Nat) (wa:World):Prop where
 A:N2 w wa base g x y gs
 bx:Blk wr w.heap.size 52 x.cells
 bn:Blk wr gs 134 (⟨y,x.op.name,n0,n1,n2,n3,lv⟩:Aj).cells.toArray
 yown:y.own wr w.heap.size
 fr:Fr Non w wr
 lo1:w.heap.size<gs
 set:Bg [n0,n1,n2,n3] (fun q=>Cn g.pns x.op.past q||C8 g.pns x.op.past q)
 hlv:lv=lvl g.pns x.op.past
 err:Au g.cards g.pns x.op=if Cu g.pns (Ak g.pns x.op.past) x.op=true then 11 else 0
def addD:PSigma (fun P:Prop=>PLift P->addC.1):=PSigma.mk _ (by
 intro hP;conv=>whnf
 intro s5 s7 s8 s9 s10 s14 s17 s18 s19 s20 s21 s22 s23 s24 s25 s26 s27 s28 s29 s30 s31 s32 s33 s34 s35 s36 s37 s38 s39 s40 s41 s42 s43 s44 s45 s46 s47 s48 s49 s50 s51 s52 s53 s54 s55 s56 s57 s58 s59 s60 s61 s62 s63 s64 s65 s66 s67 s68 s69 s70 s71 s72 s126 s127 s128 s129 s130 s131 s132 s133 s134 s135 s136 s137 s138 s139 s140 s141 s142 s143 s144 s145 s146 s147 s148 s149 s150 s151 s152 s153 s154 s155 s156 s157 s158 s159 s160 s161 s162 s163 s164 s165 s166 s167 s168 s169 s170 s171 s172 s173 s174 s175 s176 s177 s178 s179 s180 s181 s182 s183 s184 s185 s186 s187 s188 s189 s190 s191 s192 s193 s194 s195 s196 s197 s198 s199 s200 s201 s202 s203 s204 s205 s206 s207 s208 s209 s210 s211 s212 s213 s214 s215 s216 s217 s218 s219 s220 s221 s222 s223 s224 s225 s226 s227 s228 s229 s230 s231 s232 s233 s15 s16 s84 s85 s86 s87 s88 s89 s90 s91 s92 s93 s94 s95 s96 s97 s98 s99 s100 s101 s102 s103 s104 s105 s106 s107 s108 s109 s110 s111 s112 s113 s114 s115 s116 s117 s118 s119 s120 s121 s122 s123 s124 s125 base g x w y gs m w6 A6 c6 n w7 pb wv PW a0 a1 a2 a3 lv lt K hK C;have L:=C.L
 obtain ⟨p0,p1,p2,p3,rfl⟩:∃p0 p1 p2 p3,PW=[p0,p1,p2,p3]:=by
  match PW,C.par.len with
  |[p0,p1,p2,p3],_=>exact ⟨p0,p1,p2,p3,rfl⟩
 have ac:Hid (Bg [p0&&&a0,p1&&&a1,p2&&&a2,p3&&&a3] (fun k=>C8 g.pns x.op.past k&&Cn g.pns x.op.past k)):=Bg.and C.par C.abv;have ao:Hid (Bg [a0|||p0,a1|||p1,a2|||p2,a3|||p3] (fun k=>Cn g.pns x.op.past k||C8 g.pns x.op.past k)):=Bg.or C.abv C.par;have bh:=C.par.u64;have av:=C.abv.u64;have hC:=lh C;have hlt:=lh C.hlt;have r0:wv.cell? ⟨pb,0,none⟩=some (.int .u64 (p0:Int)):=L.bp.cell 0;have r1:wv.cell? ⟨pb,1,none⟩=some (.int .u64 (p1:Int)):=L.bp.cell 1;have r2:wv.cell? ⟨pb,2,none⟩=some (.int .u64 (p2:Int)):=L.bp.cell 2;have r3:wv.cell? ⟨pb,3,none⟩=some (.int .u64 (p3:Int)):=L.bp.cell 3;have L1:=L.non ((Fr.refl Non wv).alloc (.cells #[.int .u64 (p0:Int),.int .u64 (p1:Int),.int .u64 (p2:Int),.int .u64 (p3:Int)] 132));have ad:=Blk.new wv 132 #[.int .u64 (p0:Int),.int .u64 (p1:Int),.int .u64 (p2:Int),.int .u64 (p3:Int)];have bi:pb+1<wv.heap.size:=L.ba.lt;have bj:gs<wv.heap.size:=L.bn.lt;obtain ⟨CX,al⟩:=Ab x.cells;have e3:Hid (CX[3]? =some (.int .i64 x.at_)):=by show _=_;rw [<- al.out];rfl
 rw [al.out];obtain ⟨vf,ap⟩:∃vf:Nat->Value,vf=fun k=> .int .u64 (((Mw [p0,p1,p2,p3] [a0,a1,a2,a3]).getD k 0:Nat):Int):=⟨_,rfl⟩
 have au:Hid (Eu #[.int .u64 (p0:Int),.int .u64 (p1:Int),.int .u64 (p2:Int),.int .u64 (p3:Int)] 0 vf 4=#[.int .u64 ((p0&&&a0:Nat):Int),.int .u64 ((p1&&&a1:Nat):Int),.int .u64 ((p2&&&a2:Nat):Int),.int .u64 ((p3&&&a3:Nat):Int)]):=by
  show _=_;rw [ap];rfl
 have aq:Hid (∀k,k<4->vf k=.int .u64 (bits .and .u64 (([p0,p1,p2,p3].getD k 0:Nat):Int) (([a0,a1,a2,a3].getD k 0:Nat):Int))):=fun k hk=>by
  rw [ap,u64_and_nat _ _ (bh k) (av k),<- My _ _ k hk]
 have be:Hid (∀k,k<4->(#[.int .u64 (p0:Int),.int .u64 (p1:Int),.int .u64 (p2:Int),.int .u64 (p3:Int)]:Array Value)[k]? =some (.int .u64 (([p0,p1,p2,p3].getD k 0:Nat):Int))):=fun k hk=>by
  match k,hk with
  |0,_=>rfl
  |1,_=>rfl
  |2,_=>rfl
  |3,_=>rfl
 clear ap bh av C L;go_upto_region 31 with (fail)
 obtain ⟨bb,bc⟩:=Ab wv.heap.size;rw [bc.out] at ad bi bj ⊢;generalize wv.alloc (.cells #[.int .u64 (p0:Int),.int .u64 (p1:Int),.int .u64 (p2:Int),.int .u64 (p3:Int)] 132)=w1 at*
 have bd:Hid (∀k,k<4->w1.cell? ⟨pb+1,k,none⟩=some (.int .u64 (([a0,a1,a2,a3].getD k 0:Nat):Int))):=fun k hk=>by
  rw [L1.ba.cell]
  match k,hk with
  |0,_=>rfl
  |1,_=>rfl
  |2,_=>rfl
  |3,_=>rfl
 clear r0 r1 r2 r3;go_wp2_with fail
 go_loopw [127] (fun v wr=>∃i:Nat,v=.int .i64 (i:Int)/\i<=4/\Blk wr bb 132 (Eu #[.int .u64 (p0:Int),.int .u64 (p1:Int),.int .u64 (p2:Int),.int .u64 (p3:Int)] 0 vf i)/\Fr (One bb) w1 wr) (fun v _=>4-(intOf v).toNat)
 case atStart=>exact ⟨0,rfl,by omega,ad,Fr.refl _ _⟩
 case round=>
  obtain ⟨i,rfl,bm,ab,hf⟩:=hrel
  by_cases hi:i<4
  ·
   clear hP L1 ad hC hlt ac ao e3 au
   as_aux_lemma=>
   have i1:(0:Int)<=i:=by omega
   have i2:(i:Int)<4:=by omega
   have i3:(i:Int).toNat=i:=by omega
   have i4:=iw (i:Int);have c1:wr.cell? ⟨bb,i,none⟩=some (.int .u64 (([p0,p1,p2,p3].getD i 0:Nat):Int)):=by rw [ab.cell,Qr _ _ _ _ _ (by omega)];exact be.out i hi
   have c2:wr.cell? ⟨pb+1,i,none⟩=some (.int .u64 (([a0,a1,a2,a3].getD i 0:Nat):Int)):=hf.cell (bd.out i hi) (by show ¬pb+1=bb;omega);have z1:=ab.frozen i;have bq:=lh (aq.out i hi);generalize [p0,p1,p2,p3].getD i 0=pi at*;generalize [a0,a1,a2,a3].getD i 0=ai at*;go_upto_region 34 with (fail)
   refine Cv (S:=(fun w'=>w'.cell? ⟨bb,i,none⟩=some (.int .u64 (pi:Int))/\w'.cell? ⟨pb+1,i,none⟩=some (.int .u64 (ai:Int)))) 8 (by kernel_rfl) ?_;have hS:(fun w'=>w'.cell? ⟨bb,i,none⟩=some (.int .u64 (pi:Int))/\w'.cell? ⟨pb+1,i,none⟩=some (.int .u64 (ai:Int))) wr.drew:=⟨c1,c2⟩;replace c1:wr.drew.cell? ⟨bb,i,none⟩=some (.int .u64 (pi:Int)):=c1;replace z1:wr.drew.frozen? ⟨bb,i,none⟩=false:=z1;replace ab:Blk wr.drew bb 132 (Eu #[.int .u64 (p0:Int),.int .u64 (p1:Int),.int .u64 (p2:Int),.int .u64 (p3:Int)] 0 vf i):=ab;replace hf:=hf.drew;generalize wr.drew=w2 at*;refine tkM 0 8 hS (h:=?_);refine Cp (by kernel_rfl) ?_;refine stT 8 (h:=?_);refine oD ?_;go_simp
   have af:Blk (w2.setCell ⟨bb,i,none⟩ (vf i)) bb 132 (Eu #[.int .u64 (p0:Int),.int .u64 (p1:Int),.int .u64 (p2:Int),.int .u64 (p3:Int)] 0 vf (i+1)):=by
    have h1:=ab.set (0+i) (vf i);rw [A60] at h1;show Blk _ _ _ ((Eu #[.int .u64 (p0:Int),.int .u64 (p1:Int),.int .u64 (p2:Int),.int .u64 (p3:Int)] 0 vf i).setIfInBounds (0+i) (vf i));rw [A60];exact h1
   have ax:=hf.setOne i (vf i);rw [bq.out] at af ax;clear ab hf hS c1 c2 z1 aq;go_wp2_with fail;go_roundw
   case rel=>exact ⟨i+1,by go_num,by omega,af,ax⟩
   case measure=>simp [intOf];omega
  ·
   obtain rfl:i=4:=by omega
   rw [au.out] at ab
   have L2:LSt w wr x y gs pb [p0,p1,p2,p3] a0 a1 a2 a3 lv:=by
    have h1:=L1.lo1;have h2:=L1.lo2;have hw:w.heap.size<bb:=by omega
    exact ⟨L1.bx.fr hf (by unfold One;omega),L1.bn.fr hf (by unfold One;omega),L1.bp.fr hf (by unfold One;omega),L1.ba.fr hf (by unfold One;omega),L1.yown.keepP hf (Types.one ad) (by decide) (by decide) (by decide) (by decide) (by decide) (by decide) (by decide),L1.fr.trans hf (fun k hk e=>by have e':k=bb:=e;omega),h1,h2⟩
   have hz:=Ae6 ac.out;obtain ⟨b0,ay⟩:=Ab (p0&&&a0);obtain ⟨b1,a6⟩:=Ab (p1&&&a1);obtain ⟨b2,af⟩:=Ab (p2&&&a2);obtain ⟨b3,bg⟩:=Ab (p3&&&a3);rw [ay.out,a6.out,af.out,bg.out] at ab hz;obtain ⟨cl,ae⟩:=Ab (clash g.pns x.op.past)
   have bk:∀w',(Op.equalIn 10000 132 (.agg #[.int .u64 (b0:Int),.int .u64 (b1:Int),.int .u64 (b2:Int),.int .u64 (b3:Int)]) (.agg #[.int .u64 0,.int .u64 0,.int .u64 0,.int .u64 0])).run zp w'=.ok (!cl) w':=fun w'=>by
    rw [Ao6,La,La,La,La,hz,<- ae.out];rfl
   have hm:=Ao7;have k0:wr.cell? ⟨bb,0,none⟩=some (.int .u64 (b0:Int)):=ab.cell 0;have k1:wr.cell? ⟨bb,1,none⟩=some (.int .u64 (b1:Int)):=ab.cell 1;have k2:wr.cell? ⟨bb,2,none⟩=some (.int .u64 (b2:Int)):=ab.cell 2;have k3:wr.cell? ⟨bb,3,none⟩=some (.int .u64 (b3:Int)):=ab.cell 3
   have x3:wr.cell? ⟨w.heap.size,3,none⟩=some (.int .i64 x.at_):=by
    have h:=L2.bx.cell 3;rw [al.out,e3.out] at h;exact h
   clear hz ay a6 af bg ab hf L1 ad bd aq be au hi bm ac;go_upto_region 36 with (fail)
   obtain ⟨bad,aa⟩:=Ab (cl||decide (x.at_<lt))
   go_cut [147] from 139 to 147 (fun s wc=>wr=wc/\s=.bool bad)
   case first=>
    clear hP L2 hC hlt ao e3
    as_aux_lemma=>
    cases cl
    ·
     have hv:Hid (decide (x.at_<lt)=bad):=by show _=_;rw [<- aa.out];rfl
     go_wp2_with fail;go_meet;exact ⟨rfl,hB hv⟩
    ·
     have hv:Hid (true=bad):=by show _=_;rw [<- aa.out];rfl
     go_wp2_with fail;go_meet;exact ⟨rfl,hB hv⟩
   case rest=>
   obtain ⟨rfl,rfl⟩:=hcut;clear k0 k1 k2 k3 x3 bk hm
   cases bad
   case true=>
    have bo:=lh (AddPost.bad (base:=base) (w':=wr) (by
     rw [hC.out.A.err,if_pos (by
      have h1:=aa.out;rw [Bool.or_eq_true,decide_eq_true_iff] at h1;rw [ae.out,<- hlt.out];exact h1)]) (by decide) L2.fr)
    clear hP hC hlt L2 ao aa ae
    as_aux_lemma=>
    go_wp2_with fail
    go_ret
    exact bo.out
   case false=>
    have aj:Hid (Au g.cards g.pns x.op=if Cu g.pns (Ak g.pns x.op.past) x.op=true then 11 else 0):=by
     show _=_
     rw [hC.out.A.err,if_neg (by
      have h1:=aa.out;rw [Bool.or_eq_false_iff,decide_eq_false_iff_not] at h1;rw [ae.out,<- hlt.out,h1.1];intro h2
      rcases h2 with h2|h2
      · cases h2
      · exact h1.2 h2)]
    clear aa ae hlt;have m0:wr.cell? ⟨pb+1,0,none⟩=some (.int .u64 (a0:Int)):=L2.ba.cell 0;have m1:wr.cell? ⟨pb+1,1,none⟩=some (.int .u64 (a1:Int)):=L2.ba.cell 1;have m2:wr.cell? ⟨pb+1,2,none⟩=some (.int .u64 (a2:Int)):=L2.ba.cell 2;have m3:wr.cell? ⟨pb+1,3,none⟩=some (.int .u64 (a3:Int)):=L2.ba.cell 3;have y0:wr.cell? ⟨gs,30,none⟩=some (.int .u64 0):=L2.bn.cell 30;have y1:wr.cell? ⟨gs,31,none⟩=some (.int .u64 0):=L2.bn.cell 31;have y2:wr.cell? ⟨gs,32,none⟩=some (.int .u64 0):=L2.bn.cell 32;have y3:wr.cell? ⟨gs,33,none⟩=some (.int .u64 0):=L2.bn.cell 33;have z0:wr.frozen? ⟨gs,30,none⟩=false:=L2.bn.frozen 30;have z1:wr.frozen? ⟨gs,31,none⟩=false:=L2.bn.frozen 31;have z2:wr.frozen? ⟨gs,32,none⟩=false:=L2.bn.frozen 32;have z3:wr.frozen? ⟨gs,33,none⟩=false:=L2.bn.frozen 33;have ak:=L2.lo1;have ar:=L2.lo2;have fN:Fr (One gs) wr ((((wr.setCell ⟨gs,30,none⟩ (.int .u64 (a0:Int))).setCell ⟨gs,31,none⟩ (.int .u64 (a1:Int))).setCell ⟨gs,32,none⟩ (.int .u64 (a2:Int))).setCell ⟨gs,33,none⟩ (.int .u64 (a3:Int))):=((((Fr.refl (One gs) wr).setOne 30 _).setOne 31 _).setOne 32 _).setOne 33 _;have bN:Blk ((((wr.setCell ⟨gs,30,none⟩ (.int .u64 (a0:Int))).setCell ⟨gs,31,none⟩ (.int .u64 (a1:Int))).setCell ⟨gs,32,none⟩ (.int .u64 (a2:Int))).setCell ⟨gs,33,none⟩ (.int .u64 (a3:Int))) gs 134 (⟨y,x.op.name,a0,a1,a2,a3,lv⟩:Aj).cells.toArray:=(((L2.bn.set 30 _).set 31 _).set 32 _).set 33 _;have a7:=L2.bx.fr fN (by unfold One;omega);have ag:=L2.bp.fr fN (by unfold One;omega);have yN:=L2.yown.keepP fN (Types.one L2.bn) (by decide) (by decide) (by decide) (by decide) (by decide) (by decide) (by decide);have a9:Fr Non w ((((wr.setCell ⟨gs,30,none⟩ (.int .u64 (a0:Int))).setCell ⟨gs,31,none⟩ (.int .u64 (a1:Int))).setCell ⟨gs,32,none⟩ (.int .u64 (a2:Int))).setCell ⟨gs,33,none⟩ (.int .u64 (a3:Int))):=L2.fr.trans fN (fun k hk e=>by have e':k=gs:=e;omega);clear L2;go_upto_region 39 with (fail)
    clear m0 m1 m2 m3 y0 y1 y2 y3 z0 z1 z2 z3 fN;generalize ((((wr.setCell ⟨gs,30,none⟩ (.int .u64 (a0:Int))).setCell ⟨gs,31,none⟩ (.int .u64 (a1:Int))).setCell ⟨gs,32,none⟩ (.int .u64 (a2:Int))).setCell ⟨gs,33,none⟩ (.int .u64 (a3:Int)))=w3 at*;have r0:w3.cell? ⟨pb,0,none⟩=some (.int .u64 (p0:Int)):=ag.cell 0;have r1:w3.cell? ⟨pb,1,none⟩=some (.int .u64 (p1:Int)):=ag.cell 1;have r2:w3.cell? ⟨pb,2,none⟩=some (.int .u64 (p2:Int)):=ag.cell 2;have r3:w3.cell? ⟨pb,3,none⟩=some (.int .u64 (p3:Int)):=ag.cell 3
    have ah:Ht w3 gs 30 [a0,a1,a2,a3]:=fun j hj=>by
     rw [bN.cell]
     match j,hj with
     |0,_=>rfl
     |1,_=>rfl
     |2,_=>rfl
     |3,_=>rfl
    have kw:=lh (Qs gs 30 134 _ [a0,a1,a2,a3] p0 p1 p2 p3 _ _ w3 hC.out.abv hC.out.par bN ah)
    have hD:Hid (∀w4,Blk w4 gs 134 (J5 (⟨y,x.op.name,a0,a1,a2,a3,lv⟩:Aj).cells.toArray 30 (orW [a0,a1,a2,a3] [p0,p1,p2,p3]))->Fr (One gs) w3 w4->DSt w w4 base g x y gs (a0|||p0) (a1|||p1) (a2|||p2) (a3|||p3) lv w6):=by
     intro w4 hb hf;exact ⟨hC.out.A,a7.fr hf (by unfold One;omega),hb,yN.keepP hf (Types.one bN) (by decide) (by decide) (by decide) (by decide) (by decide) (by decide) (by decide),a9.trans hf (fun k hk e=>by have e':k=gs:=e;omega),ak,ao.out,hC.out.hlv,aj.out⟩
    clear ah bN a7 ag yN a9 hC ao aj ak ar;go_upto_region 40 with (go_at_call 92;(with_reducible refine (kw.out).mono ?_);rintro _ w4 ⟨rfl,aw,bf⟩)
    have D:=hD.out w4 aw bf;clear hD aw bf kw r0 r1 r2 r3;obtain ⟨n0,a4⟩:=Ab (a0|||p0);obtain ⟨n1,a5⟩:=Ab (a1|||p1);obtain ⟨n2,a8⟩:=Ab (a2|||p2);obtain ⟨n3,az⟩:=Ab (a3|||p3);rw [a4.out,a5.out,a8.out,az.out] at D;clear a4 a5 a8 az e3 bj bi bc;rename_i QQ KB hKB K2 hK2;clear hKB KB QQ;have bl:=al.out;subst bl;clear al;revert D;revert hK2;revert base g x w y gs m w6 A6 c6 n w7 pb wv a0 a1 a2 a3 lv lt p0 p1 p2 p3 n0 n1 n2 n3 bb w1 wr b0 b1 b2 b3 cl w3 w4 K2;revert s5 s7 s8 s9 s10 s14 s15 s16 s19 s20 s21 s22 s23 s24 s25 s26 s27 s28 s29 s30 s31 s32 s33 s34 s35 s36 s37 s38 s39 s40 s41 s42 s43 s44 s45 s46 s47 s48 s49 s50 s51 s52 s53 s54 s55 s56 s57 s58 s59 s60 s61 s62 s63 s64 s65 s66 s67 s68 s69 s70 s71 s72 s84 s85 s86 s87 s88 s89 s90 s91 s92 s93 s94 s95 s96 s97 s98 s99 s100 s101 s102 s103 s104 s105 s106 s107 s108 s109 s110 s111 s112 s113 s114 s115 s116 s117 s118 s119 s120 s121 s122 s123 s124 s125 s152 s153 s154 s155 s156 s157 s158 s159 s160 s161 s162 s163 s164 s165 s166 s167 s168 s169 s170 s171 s172 s173 s174 s175 s176 s177 s178 s179 s180 s181 s182 s183 s184 s185 s186 s187 s188 s189 s190 s191 s192 s193 s194 s195 s196 s197 s198 s199 s200 s201 s202 s203 s204 s205 s206 s207 s208 s209 s210 s211 s212 s213 s214 s215 s216 s217 s218 s219 s220 s221 s222 s223 s224 s225 s226 s227 s228 s229 s230 s231 s232 s233 u18 u128 u129 u130 u131 u132 u133 u134 u135 u136 u137 u138 u139 u140 u141 u142 u143 u144 u145 u146;exact hP.down)
end Oq
theorem Own.block {w:World} {base size n c:Nat} {t:TypeId} {A:Option Addr} {xs:List Value} (h:Own w base t size A n c xs) {k:Nat} (hk:Ad A=some k):∃cs fr,w.heap[k]? =some (.cells cs t fr):=by
 rcases h.2 with ⟨hv,_⟩|⟨g,cap,cur,hv,_,hg,_⟩
 ·
  injection hv with hA
  subst hA
  cases hk
 ·
  injection hv with hA
  subst hA;injection hk with hk
  subst hk;exact ⟨_,_,hg⟩
theorem Own.keepT {S:Nat->Prop} {w w':World} {base size n c:Nat} {t:TypeId} {A:Option Addr} {xs:List Value} {P:TypeId->Prop} (h:Own w base t size A n c xs) (hf:Fr S w w') (hS:Oq.Types S w P) (ht:¬P t):Own w' base t size A n c xs:=
 h.fr hf (fun k hk e=>by
  obtain ⟨cs,fr,hb⟩:=h.block hk;exact ht (hS _ _ _ _ hb e))
namespace Oq
theorem MapAt.ismap {w:World} {b m:Nat} {f:Id->Option Nat} (h:MapAt w b m f):∀cs t fr,w.heap[b]? ≠some (.cells cs t fr):=by
 intro cs t fr e;obtain ⟨n,D,ho,_⟩:=h;obtain ⟨es,clock,hbl,_⟩:=ho;rw [e] at hbl
 cases hbl
theorem Lb {o:Op} (h:o.ok):o.name.ok:=by
 have hu:=N3 o;unfold Op.name;generalize o.id=u at*;exact ⟨h.by_,h.sq,hu⟩
def Gty (t:TypeId):Prop:=t=129\/t=134
theorem GAt.types {w:World} {base:Nat} {g:Gph} (h:GAt w base g):Types g.own w Gty:=by
 intro k cs t fr hk e
 rcases e with e|e|e
 ·
  subst e;have h1:=h.blk;unfold Blk at h1;rw [hk] at h1;injection h1 with h1
  injection h1 with _ h2
  exact .inl h2
 ·
  subst e;exact absurd hk (h.map.ismap _ _ _)
 · exact .inr (Types.row h.own k cs t fr hk e)
theorem Ao8 {l:List Aj} {n:Aj} (h:place l n.id=none) (y:Id):(if y=n.id then some l.length else place l y)=place (l++[n]) y:=by
 unfold place at*;rw [List.findIdx?_append]
 by_cases e:y=n.id
 ·
  subst e;rw [if_pos rfl,h];simp
 ·
  rw [if_neg e]
  have h2:([n].findIdx? (fun m=>decide (m.id=y)))=none:=by
   simp [List.findIdx?_cons,show ¬n.id=y from fun e2=>e e2.symm]
  rw [h2]
  cases l.findIdx? (fun m=>decide (m.id=y))<;>simp
theorem T4:SlT zp 127 134 (.agg zN) 35 392:=⟨underlying127,by kernel_rfl,rfl,by decide⟩
theorem Ao9 {w w4 wd w5 w6 w7 wa:World} {base:Nat} {g:Gph} {x y:OpL} {gs n0 n1 n2 n3 lv:Nat} {A':Option Addr} {c':Nat} (hg:GAt w base g) (D:DSt w w4 base g x y gs n0 n1 n2 n3 lv wa) (herr:Au g.cards g.pns x.op=0)
  (fd:Fr Non w4 wd) (hm:MapAt w5 g.mb (g.mm+1) (fun z=>if z=x.op.name then some g.nodes.length else place g.nodes z)) (f5:Fr (One g.mb) wd w5) (f6:Fr Non w5 w6)
  (own7:Own w7 base 134 35 A' (g.nodes.length+1) c' (g.nodes.flatMap Aj.cells++(⟨y,x.op.name,n0,n1,n2,n3,lv⟩:Aj).cells)) (f7:Fr (fun k=>Ad g.nA=some k) w6 w7) (hat:Ad A'=Ad g.nA\/Ad A'=some w6.heap.size):
  AddPost base g x.op w (.returned (.int .i64 0)) (w7.setCell ⟨g.gb,2,none⟩ (.slice A' (g.nodes.length+1) c')):=by
 obtain ⟨N,hN⟩:∃N:Aj,N=⟨y,x.op.name,n0,n1,n2,n3,lv⟩:=⟨_,rfl⟩;have aa:N.id=x.op.name:=by rw [hN]
 have ak:N.ws=[n0,n1,n2,n3]:=by rw [hN];rfl
 rw [<- hN] at own7;have ax:=hg.blk.lt;have ag:base<=w.heap.size:=Nat.le_trans hg.gbase (A70 ax);have ar:Fr Non w wd:=D.fr.trans fd zr;have aw:=hg.fr ar;have ty:=hg.types
 have ab:g.gb≠g.mb:=fun e=>by
  have h1:=hg.blk;unfold Blk at h1;rw [e] at h1;exact hg.map.ismap _ _ _ h1
 have aj:¬Ad g.nA=some g.mb:=fun e=>by
  obtain ⟨cs,fr,hb⟩:=hg.own.block e;exact hg.map.ismap _ _ _ hb
 have aq:¬Ad g.nA=some g.gb:=hg.own.ne hg.blk (by decide)
 have ac:∀{w0:World},Fr Non w0 wd->Fr g.own w0 (w7.setCell ⟨g.gb,2,none⟩ (.slice A' (g.nodes.length+1) c')):=by
  intro w0 h0;have F5:Fr g.own w0 w5:=(Fr.of_non h0 g.own).trans f5 (fun i _ e=> .inr (.inl e));have F6:Fr g.own w0 w6:=F5.trans f6 (fun _ _ e=>e.elim);have F7:Fr g.own w0 w7:=F6.trans f7 (fun i _ e=> .inr (.inr e));exact F7.setCell (p:=⟨g.gb,2,none⟩) (fun _=> .inl rfl) _
 have F8:=ac ar;have av:=ac fd;have au:=(hg.fr D.fr).types
 have b7:Blk w7 g.gb 129 #[.slice g.cA g.cards.length g.cC,.map (some g.mb),.slice g.nA g.nodes.length g.nC]:=
  ((aw.blk.fr f5 (fun e=>ab e)).fr f6 zq).fr f7 aq
 have ae:Ad A'≠some g.gb:=own7.ne b7 (by decide);have fz:Fr (One g.gb) w7 (w7.setCell ⟨g.gb,2,none⟩ (.slice A' (g.nodes.length+1) c')):=(Fr.refl _ _).setOne 2 _;have m8:=(((hm.fr f6 zq).fr f7 aj).fr fz (fun e=>ab e.symm))
 have ap:place g.nodes N.id=none:=by
  rw [aa,<- Gv];exact D.A.new
 have ai:MapAt (w7.setCell ⟨g.gb,2,none⟩ (.slice A' (g.nodes.length+1) c')) g.mb (g.mm+1) (place (g.nodes++[N])):=by
  have e:(fun z=>if z=x.op.name then some g.nodes.length else place g.nodes z)=place (g.nodes++[N]):=by
   funext z;rw [<- aa];exact Ao8 ap z
  rw [<- e];exact m8
 have ad:(g.nodes++[N]).length=g.nodes.length+1:=by simp
 have ao:lv<=g.nodes.length+1:=by
  rw [D.hlv];refine Sq g.pns g.nodes.length (fun n hn=> ?_) _;obtain ⟨m,hm,rfl⟩:=List.mem_map.1 hn;exact hg.levs m hm
 have af:Bg N.ws N.past:=by
  rw [ak];refine ⟨rfl,D.set.u64,fun n hn=> ?_⟩;unfold Aj.past;rw [ak]
 have al:N.past=Ak g.pns x.op.past:=by
  have h1:Bg N.ws (fun q=>Cn g.pns x.op.past q||C8 g.pns x.op.past q):=by rw [ak];exact D.set
  rw [Ae5 h1];rfl
 have ah:N.okAt (w7.setCell ⟨g.gb,2,none⟩ (.slice A' (g.nodes.length+1) c')) base:=by
  refine ⟨?_,?_,?_,af⟩
  ·
   rw [hN];exact (D.yown.keepP av au (by unfold Gty;decide) (by unfold Gty;decide) (by unfold Gty;decide) (by unfold Gty;decide) (by unfold Gty;decide) (by unfold Gty;decide) (by unfold Gty;decide)).lower ag
  ·
   have h1:N.x.op=x.op:=by rw [hN];exact D.A.yop
   rw [h1];exact D.A.hok
  ·
   rw [aa];exact Lb D.A.hok
 refine ⟨by rw [herr],.inr ⟨herr,⟨g.gb,g.mb,g.mm+1,g.cA,g.cC,g.cards,A',c',g.nodes++[N]⟩,?_,rfl,rfl,rfl,?_,F8,?_,N,rfl,?_⟩⟩
 ·
  refine ⟨?_,hg.pos,hg.gbase,hg.mbase,hg.crow.keepT F8 ty (by unfold Gty;decide),?_,?_,?_,?_,hg.cfew,hg.cok,ai,?_⟩
  ·
   show Blk _ g.gb _ #[.slice g.cA g.cards.length g.cC,.map (some g.mb),.slice A' (g.nodes++[N]).length c'];rw [ad];exact b7.set 2 _
  ·
   show Own _ base 134 35 A' (g.nodes++[N]).length c' ((g.nodes++[N]).flatMap Aj.cells);rw [ad,List.flatMap_append,List.flatMap_cons,List.flatMap_nil,List.append_nil];exact own7.setOne ae
  ·
   show (g.nodes++[N]).length<=200;have:=D.A.few;omega
  ·
   show g.mm+1<=(g.nodes++[N]).length;have:=hg.mfew;omega
  ·
   intro n hn;show n.lev<=(g.nodes++[N]).length;rw [ad]
   rcases List.mem_append.1 hn with hn|hn
   ·
    have:=hg.levs n hn;omega
   ·
    obtain rfl:=List.mem_singleton.1 hn;rw [hN];exact ao
  ·
   intro n hn
   rcases List.mem_append.1 hn with hn|hn
   ·
    have k:=hg.node n hn;exact ⟨k.own.keepP F8 ty (by unfold Gty;decide) (by unfold Gty;decide) (by unfold Gty;decide) (by unfold Gty;decide) (by unfold Gty;decide) (by unfold Gty;decide) (by unfold Gty;decide),k.ok,k.id,k.set⟩
   ·
    obtain rfl:=List.mem_singleton.1 hn;exact ah
 ·
  show (g.nodes++[N]).map Aj.pn=g.nodes.map Aj.pn++[Az g.pns x.op];rw [List.map_append,List.map_cons,List.map_nil];congr 2;unfold Aj.pn Az;rw [al,aa];congr 1
  ·
   rw [hN];exact D.A.yop
  ·
   rw [hN];exact D.hlv
 ·
  intro k hk e
  rcases e with e|e|e
  · exact .inl e
  · exact .inr (.inl e)
  ·
   refine .inr (.inr ?_);have e':Ad A'=some k:=e
   rcases hat with h1|h1
   ·
    rw [<- h1];exact e'
   ·
    rw [h1] at e';injection e' with e'
    have:=(ar.size);have h5:=f5.size;have h6:=f6.size;omega
 ·
  rw [hN];exact D.yown.keepP av au (by unfold Gty;decide) (by unfold Gty;decide) (by unfold Gty;decide) (by unfold Gty;decide) (by unfold Gty;decide) (by unfold Gty;decide) (by unfold Gty;decide)
end Oq
namespace Oq
attribute [local go_sem] A63 A64
theorem Ap0 {l:List Pn} {p:Nat->Bool} {d:Int} {k:Nat} {n:Pn} (h:l[k]? =some n):Bc l p d (k+1)=if (n.o.by_==d&&p k)=true then max (Bc l p d k) n.o.sq else Bc l p d k:=by
 show (match l[k]? with|some n=>if (n.o.by_==d&&p k)=true then max (Bc l p d k) n.o.sq else Bc l p d k|none=>Bc l p d k)=_;rw [h]
theorem Ap1 {l:List Pn} {p:Nat->Bool} {d s:Int} {k:Nat} {n:Pn} (h:l[k]? =some n):Dq l p d s (k+1)=(Dq l p d s k||(n.o.by_==d&&p k&&n.o.sq==s-1)):=by
 show (match l[k]? with|some n=>Dq l p d s k||(n.o.by_==d&&p k&&n.o.sq==s-1)|none=>Dq l p d s k)=_;rw [h]
theorem Ap2 {o:Op} (h:o.chk=0):1<=o.sq/\o.sq<=2147483647:=by
 have h1:=(chk_ok.1 h).2.2.1;unfold Op.numsB at h1;simp only [Bool.and_eq_true] at h1;have h2:=h1.1.1.2;unfold inR at h2;simpa using h2
def bsS (t:TypeId) (len:Nat) (parts:Array (Nat × Value)):=Instr.buildSlice t len parts
theorem Ap3 (n:Nat) (p:Array (Nat × Value)):Instr.buildSlice 127 n p=bsS 127 n p:=rfl
theorem Ap4 (N:Aj) (w:World):(bsS 127 1 #[(0,.agg N.cells.toArray)]).run zp w=.ok (.slice (some ⟨w.heap.size,0,none⟩) 1 1) (w.alloc (.cells N.cells.toArray 134)):=by
 obtain ⟨ht,hinfo,_⟩:=T4;obtain ⟨i,hi,hz,hs,_⟩:=info_parts hinfo;exact run_buildSlice w 127 134 1 _ _ i _ ht hi hz (by rw [hs];decide) (by rw [hs];decide) (by rw [hs];kernel_rfl)
theorem Ap5 {P:Program} {o:Oper} {a:Act} {K:Act->World->Prop} {Q:Exit->Act->World->Prop} {w:World} (s x:Operand) (t:TypeId)
  (ho:o.op=.call {callee:=.builtin .append,args:=#[s,x],argTypes:=#[t,t]})
  {base size n c:Nat} {e:TypeId} {A:Option Addr} {xs:List Value} {z:Value} {bytes m cx B:Nat} {Ax:Option Addr} {news:List Value}
  (hs:a.eval s=.slice A n c) (hx:a.eval x=.slice Ax m cx)
  (hT:SlT P t e z size bytes) (h:Own w base e size A n c xs) (hr:Rd w B size Ax m news)
  (h1:∀u∈news,u.oneCell'=true) (hbytes:(n+m)*bytes<=140737488355328) (hmax:n+m<=9223372036854775807) (hbase:base<=w.heap.size)
  (hk:∀A' c' w',Own w' base e size A' (n+m) c' (xs++news)->Fr (fun k=>Ad A=some k) w w'->(Ad A'=Ad A\/Ad A'=some w.heap.size)->
   K (a.put o.dst (.slice A' (n+m) c')) w'):Oper.wp P o a w K Q:=by
 obtain ⟨A',c',w',hrun,h2,h3,h4⟩:=Ij (P:=P) (ty:=o.type) (cx:=cx) hT h hr h1 hbytes hmax hbase;unfold Oper.wp execOp;simp only [ho,resolve,invoke,builtin,Sem.run_bind,Sem.run_pure,Result.andThen_ok,List.map_toArray,List.map_cons,List.map_nil,hs,hx,hrun];exact hk A' c' w' h2 h3 h4
attribute [local go_sem ↓] Kr Ks Ap3
theorem Ap6:addD.1:=by
 conv=>whnf
 intro r5 r7 r8 r9 ji hp i6 i7 g5 ii ij hy h9 h5 g1 ik hh jb jk iy h6 jf he je ir hm h8 h2 g3 ic hs iz ig ha g4 ib i0 jl jg ht iu g8 h4 im i8 gz io ie hn h7 g0 jo ja jp ih jd g9 iq il hl ek dj dc cu ga fj ew gx ed fc db gr di fz gc fn cq cy d5 dz eo fu ct fv d0 ep f9 dw es fo eu cr fp cn cx gd da ge gm e6 de f2 fs gk e7 dl cp ef c9 d8 e4 f0 ey fq ei e3 ft ds dr ez gg gp gw ec ee fx dk cv c0 eh du et cm dx gl dq fw f3 d4 gt fk gv hr hw jc jj ho hc jm i5 g2 jn ia iv jq g7 i9 g6 h3 jh dt dm d1 d2 er eb dn gn gu fb ck dp gi fl d3 gq ff em dg en f4 d9 fm c4 dv fy hd e9 eg d6 e5 cz gh c8 e2 ej f8 cw df dy fh d7 dd ea dh gj base g x w y gs m w6 A6 c6 n w7 pb wv a0 a1 a2 a3 lv lt p0 p1 p2 p3 bb w1 wq b0 b1 b2 b3 cl w3 w4 K n0 n1 n2 n3 hK D;have hg:=D.A.hg;have b4:=Ap2 D.A.chk;replace b4:1<=x.sq/\x.sq<=2147483647:=b4;have br:=D.A.few;have hD:=lh D
 have bq:Hid (∀i,i<256->Ak g.pns x.op.past i=(Cn g.pns x.op.past i||C8 g.pns x.op.past i)):=fun i hi=>by
  unfold Ak;simp [hi]
 have bs:Hid (g.pns.length=g.nodes.length):=by show _=_;unfold Gph.pns;rw [A61]
 obtain ⟨CX,bg⟩:=Ab x.cells;have e0:Hid (CX[0]? =some (.int .i64 x.by_)):=by show _=_;rw [<- bg.out];rfl
 have e1:Hid (CX[1]? =some (.int .i64 x.sq)):=by show _=_;rw [<- bg.out];rfl
 have hx:Hid (∀wz,Fr Non w4 wz->cI wz w.heap.size 0 x.by_/\cI wz w.heap.size 1 x.sq):=fun wz hf=>by
  have h:=D.bx.fr hf zq;have h0:=h.cell 0;have h1:=h.cell 1;rw [bg.out] at h0 h1;rw [e0.out] at h0;rw [e1.out] at h1;exact ⟨h0,h1⟩
 have aw:Hid (∀wz,Fr Non w4 wz->cS wz g.gb 2 g.nA g.nodes.length g.nC):=fun wz hf=>((hg.fr D.fr).fr hf).blk.cell 2;rw [bg.out];obtain ⟨nn,aq⟩:=Ab g.nodes.length;rw [aq.out] at aw br bs;have c2:=aw.out w4 (Fr.refl _ _);clear D;go_wp2_with fail;clear c2
 go_loopw [19,20,158] (fun tl ta v wr=>∃(i:Nat) (la:Int) (ah:Bool),tl=.int .i64 la/\ta=.bool ah/\v=.int .i64 (i:Int)/\i<=nn/\Hid (la=Bc g.pns (Ak g.pns x.op.past) x.by_ i)/\Hid (ah=Dq g.pns (Ak g.pns x.op.past) x.by_ x.sq i)/\Fr Non w4 wr) (fun _ _ v _=>nn-(intOf v).toNat)
 case atStart=>exact ⟨0,0,false,rfl,rfl,rfl,by omega,rfl,rfl,Fr.refl _ _⟩
 case round=>
  obtain ⟨i,la,ah,rfl,rfl,rfl,hi,ak,ai,hf⟩:=hrel
  by_cases hin:i<nn
  ·
   as_aux_lemma=>
   obtain ⟨i1,i2,i3⟩:=ix i nn
   have i4:=iw (i:Int);obtain ⟨nd,bl⟩:∃z,g.nodes[i]? =some z:=⟨_,A59 (by rw [aq.out];exact hin)⟩;have bp:g.pns[i]? =some nd.pn:=by unfold Gph.pns;rw [A65,bl];rfl
   obtain ⟨bn,ab,cb,e8,ad⟩:=hg.cell bl;have ae:=lh (Ap0 (p:=Ak g.pns x.op.past) (d:=x.by_) bp);have af:=lh (Ap1 (p:=Ak g.pns x.op.past) (d:=x.by_) (s:=x.sq) bp)
   have bi:Hid (∀wz,Fr Non w4 wz->cI wz bn (ab+i*35) nd.x.by_/\cI wz bn (ab+i*35+1) nd.x.sq):=fun wz hf=>by
    have f1:=hD.out.fr.trans hf zr;exact ⟨f1.cell (ad 0 (by omega) _ rfl) zq,f1.cell (ad 1 (by omega) _ rfl) zq⟩
   have kh:=lh (fun wz (hz:Fr Non w4 wz)=>Zk gs 30 [n0,n1,n2,n3] _ i wz hD.out.set (fun j hj=>by
    rw [(hD.out.bn.fr hz zq).cell]
    match j,hj with
    |0,_=>rfl
    |1,_=>rfl
    |2,_=>rfl
    |3,_=>rfl) (by omega))
   obtain ⟨mi,bj⟩:=Ab (Cn g.pns x.op.past i||C8 g.pns x.op.past i);have ca:Hid (Ak g.pns x.op.past i=mi):=(bq.out i (by omega)).trans bj.out;rw [bj.out] at kh;have c2:=aw.out wr hf;rw [cb] at c2;obtain ⟨ar,ap⟩:=bi.out wr hf;obtain ⟨x0,x1⟩:=hx.out wr hf;have bz:=iw (x.sq-1);rw [ca.out] at ae af;replace ae:Hid (Bc g.pns (Ak g.pns x.op.past) x.by_ (i+1)=if (nd.x.by_==x.by_&&mi)=true then max (Bc g.pns (Ak g.pns x.op.past) x.by_ i) nd.x.sq else Bc g.pns (Ak g.pns x.op.past) x.by_ i):=ae;replace af:Hid (Dq g.pns (Ak g.pns x.op.past) x.by_ x.sq (i+1)=(Dq g.pns (Ak g.pns x.op.past) x.by_ x.sq i||(nd.x.by_==x.by_&&mi&&nd.x.sq==x.sq-1))):=af;clear bp bl ad cb bq bj ca aw hg hD
   rcases zb (nd.x.by_==x.by_) with hq|hq
   ·
    rw [hq] at ae af;go_upto_region 46 with (fail)
    clear c2;refine wp_region_held_drew (S:=(fun w'=>cI w' bn (ab+i*35) nd.x.by_/\cI w' w.heap.size 0 x.by_)) (by kernel_rfl) ⟨ar,x0⟩ (fun hS=> ?_);replace hf:=hf.drew;refine tkN 0 11 hS (h:=?_);refine oG 11 (fun K hK=> ?_);go_simp;go_wp2_with (go_at_call 93;(with_reducible refine (kh.out _ hf).mono ?_);rintro _ _ ⟨rfl,rfl⟩);refine hK.out _ _ hS (fun hZ=> ?_);clear hZ hK K kh;try simp only [Ah,zl]
    refine tkN 12 1 hS (h:=?_);refine oD ?_;go_simp;obtain ⟨ar,ap⟩:=bi.out wr.drew hf;obtain ⟨x0,x1⟩:=hx.out wr.drew hf;clear hS bi ar x0
    cases mi
    ·
     have av:Hid (la=Bc g.pns (Ak g.pns x.op.past) x.by_ (i+1)):=by show _=_;rw [ae.out,<- ak.out];rfl
     have ao:Hid (ah=Dq g.pns (Ak g.pns x.op.past) x.by_ x.sq (i+1)):=by show _=_;rw [af.out,<- ai.out];simp
     clear ae af ak ai ap x1;go_wp2_with fail;go_roundw
     case rel=>exact ⟨i+1,la,ah,rfl,rfl,by go_num,by omega,av,ao,hf⟩
     case measure=>simp [intOf];omega
    ·
     have av:Hid (max la nd.x.sq=Bc g.pns (Ak g.pns x.op.past) x.by_ (i+1)):=by show _=_;rw [ae.out,<- ak.out];rfl
     have ao:Hid ((ah||nd.x.sq==x.sq-1)=Dq g.pns (Ak g.pns x.op.past) x.by_ x.sq (i+1)):=by show _=_;rw [af.out,<- ai.out];simp
     clear ae af ak ai;go_upto_region 48 with (fail)
     generalize wr.drew=w5 at*
     cases ah
     case false=>
      refine wp_region_held_drew (S:=(fun w'=>cI w' bn (ab+i*35+1) nd.x.sq/\cI w' w.heap.size 1 x.sq)) (by kernel_rfl) ⟨ap,x1⟩ (fun hS=> ?_);replace hf:=hf.drew;refine tkN 0 13 hS (h:=?_);refine oD ?_;go_simp;go_wp2_with fail;go_roundw
      case rel=>exact ⟨i+1,max la nd.x.sq,_,rfl,rfl,by go_num,by omega,av,ao,hf⟩
      case measure=>simp [intOf];omega
     case true=>
      refine wp_region_held_drew (S:=(fun w'=>cI w' bn (ab+i*35+1) nd.x.sq/\cI w' w.heap.size 1 x.sq)) (by kernel_rfl) ⟨ap,x1⟩ (fun hS=> ?_);replace hf:=hf.drew;refine tkN 0 2 hS (h:=skN 2 9 hS (h:=tkN 11 2 hS (h:=?_)));refine oD ?_;go_simp;go_wp2_with fail;go_roundw
      case rel=>exact ⟨i+1,max la nd.x.sq,_,rfl,rfl,by go_num,by omega,av,ao,hf⟩
      case measure=>simp [intOf];omega
   ·
    rw [hq] at ae af;have av:Hid (la=Bc g.pns (Ak g.pns x.op.past) x.by_ (i+1)):=by show _=_;rw [ae.out,<- ak.out];rfl
    have ao:Hid (ah=Dq g.pns (Ak g.pns x.op.past) x.by_ x.sq (i+1)):=by show _=_;rw [af.out,<- ai.out];simp
    clear ae af ak ai;go_upto_region 46 with (fail)
    clear c2;refine wp_region_held_drew (S:=(fun w'=>cI w' bn (ab+i*35) nd.x.by_/\cI w' w.heap.size 0 x.by_)) (by kernel_rfl) ⟨ar,x0⟩ (fun hS=> ?_);replace hf:=hf.drew;refine tkN 0 9 hS (h:=skN 9 3 hS (h:=tkN 12 1 hS (h:=?_)));refine oD ?_;go_simp;clear hS;go_wp2_with fail;go_roundw
    case rel=>exact ⟨i+1,la,ah,rfl,rfl,by go_num,by omega,av,ao,hf⟩
    case measure=>simp [intOf];omega
  ·
   obtain rfl:nn=i:=by omega
   have ac:Hid (Cu g.pns (Ak g.pns x.op.past) x.op=(decide (x.sq<=la)||(decide (1<x.sq)&& !ah))):=by
    show _=_;unfold Cu;rw [bs.out];rw [show x.op.by_=x.by_ from rfl,show x.op.sq=x.sq from rfl,<- ak.out,<- ai.out]
   obtain ⟨x0,x1⟩:=hx.out wr hf;obtain ⟨bad,au⟩:=Ab (decide (x.sq<=la)||(decide (1<x.sq)&& !ah));clear ak ai hi hin hx aw bs bq x0;go_upto_region 50 with (fail)
   go_cut [212] from 200 to 212 (fun s wc=>wr=wc/\s=.bool bad)
   case first=>
    clear hD ac hg
    as_aux_lemma=>
    rcases zb (decide (x.sq<=la)) with t1|t1
    ·
     have hv:Hid (true=bad):=by show _=_;rw [<- au.out,t1];rfl
     go_wp2_with fail;go_meet;exact ⟨rfl,hB hv⟩
    ·
     rcases zb (decide (1<x.sq)) with t2|t2
     ·
      have hv:Hid ((!ah)=bad):=by show _=_;rw [<- au.out,t1,t2];rfl
      go_wp2_with fail;go_meet;exact ⟨rfl,hB hv⟩
     ·
      have hv:Hid (false=bad):=by show _=_;rw [<- au.out,t1,t2];rfl
      go_wp2_with fail;go_meet;exact ⟨rfl,hB hv⟩
   case rest=>
   obtain ⟨rfl,rfl⟩:=hcut;clear x1;rw [au.out] at ac
   cases bad
   case true=>
    have bt:=lh (AddPost.bad (base:=base) (w':=wr) (by rw [hD.out.err,if_pos ac.out]) (by decide) (hD.out.fr.trans hf zr));clear hD ac au hg hf
    as_aux_lemma=>
    go_wp2_with fail
    go_ret
    exact bt.out
   case false=>
    have a7:Au g.cards g.pns x.op=0:=by rw [hD.out.err,ac.out];rfl
    have D:=hD.out;obtain ⟨aa,ag⟩:=Ab x.op.name;have bk:aa.ok:=by rw [<- ag.out];exact Lb D.A.hok
    have c3:Fr Non w wr:=D.fr.trans hf zr;have bd:=hg.fr c3;have a9:=D.bn.fr hf zq;rw [ag.out] at a9;have cg:cI wr gs 27 aa.b:=a9.cell 27;have cd:cI wr gs 28 aa.s:=a9.cell 28;have b9:cU wr gs 29 aa.u:=a9.cell 29;have c1:wr.cell? ⟨g.gb,1,none⟩=some (.map (some g.mb)):=bd.blk.cell 1;have c2:wr.cell? ⟨g.gb,2,none⟩=some (.slice g.nA nn g.nC):=by rw [<- aq.out];exact bd.blk.cell 2
    obtain ⟨w5,ay,ci,cf⟩:=MapAt.store (bd.map.fr ((Fr.refl Non wr).drew) zq) aa bk nn (by omega) (by have:=hg.mfew;have:=hg.few;omega);have f5:Fr (One g.mb) wr.drew w5:=(Fr.refl (One g.mb) wr.drew).grown cf (fun k hk _=>by injection hk with hk;exact hk.symm);have aj:(Instr.mapUpdate 126 (.map (some g.mb)) (.agg aa.V) (.int .i64 (nn:Int))).run zp wr.drew=.ok () w5:=ay;clear ay cf ac au;go_upto_region 52 with (fail)
    refine Cv (S:=(fun w'=>cI w' gs 27 aa.b/\cI w' gs 28 aa.s/\cU w' gs 29 aa.u/\w'.cell? ⟨g.gb,1,none⟩=some (.map (some g.mb))/\cS w' g.gb 2 g.nA nn g.nC)) 11 (by kernel_rfl) ?_;have hS:(fun w'=>cI w' gs 27 aa.b/\cI w' gs 28 aa.s/\cU w' gs 29 aa.u/\w'.cell? ⟨g.gb,1,none⟩=some (.map (some g.mb))/\cS w' g.gb 2 g.nA nn g.nC) wr.drew:=⟨cg,cd,b9,c1,c2⟩;obtain ⟨wd,cc⟩:=Ab wr.drew;have fd:Fr Non w4 wd:=by rw [<- cc.out];exact hf.drew
    rw [cc.out] at hS f5 aj ⊢;refine tkM 0 11 hS (h:=?_);refine Cp (by kernel_rfl) ?_;refine stT 11 (h:=?_);refine oD ?_;go_simp;clear hS aj cg cd b9 c1 c2 bd a9;have b8:Fr Non w wd:=D.fr.trans fd zr;have bm:=hg.fr b8;have el:g.mb<w.heap.size:=hg.map.lt;have co:=D.lo1
    have a6:g.gb≠g.mb:=fun e=>by
     have h1:=hg.blk;unfold Blk at h1;rw [e] at h1;exact hg.map.ismap _ _ _ h1
    have bv:¬Ad g.nA=some g.mb:=fun e=>by
     obtain ⟨cs,fr,hb⟩:=hg.own.block e;exact hg.map.ismap _ _ _ hb
    have ax:¬Ad g.nA=some g.gb:=hg.own.ne hg.blk (by decide);have bo:¬Ad g.nA=some gs:=fun e=>by have:=(hg.own.row _ e).2;omega
    have b5:=bm.blk.fr f5 (fun e=>a6 e)
    have fg:Blk w5 gs 134 (⟨y,aa,n0,n1,n2,n3,lv⟩:Aj).cells.toArray:=by
     have h1:=(D.bn.fr fd zq).fr f5 (fun e=>by have e':gs=g.mb:=e;omega);rw [ag.out] at h1;exact h1
    have bw:Own w5 base 134 35 g.nA nn g.nC (g.nodes.flatMap Aj.cells):=by
     rw [<- aq.out];exact bm.own.fr f5 (fun k hk e=>by have e':k=g.mb:=e;subst e';exact bv hk)
    have c5:w5.cell? ⟨g.gb,2,none⟩=some (.slice g.nA nn g.nC):=by rw [<- aq.out];exact b5.cell 2
    have ba:(zp.info? 134).map (·.size)=some (⟨y,aa,n0,n1,n2,n3,lv⟩:Aj).cells.toArray.size:=by
     show _=some 35
     kernel_rfl
    have fi:=Be (P:=zp) gs 134 underlying134 rfl (cs:=(⟨y,aa,n0,n1,n2,n3,lv⟩:Aj).cells.toArray) ba;have ev:=Ap4 ⟨y,aa,n0,n1,n2,n3,lv⟩;have a8:=Iy ⟨y,aa,n0,n1,n2,n3,lv⟩;have bu:(⟨y,aa,n0,n1,n2,n3,lv⟩:Aj).cells.length=35:=rfl;have al:=lh (fun (A':Option Addr) (c':Nat) (w6 w7:World)=>Ao9 (w4:=w4) (wd:=wd) (w5:=w5) (w6:=w6) (w7:=w7) (A':=A') (c':=c') hg D a7 fd);have ce:base<=w.heap.size:=Nat.le_trans hg.gbase (A70 hg.blk.lt);have ip:=f5.size;have gy:=b8.size;rw [ag.out,aq.out] at al;clear bm D a7 hD hf;go_upto_region 53 with (fail)
    refine Cv (S:=(fun w'=>cS w' g.gb 2 g.nA nn g.nC/\Blk w' gs 134 (⟨y,aa,n0,n1,n2,n3,lv⟩:Aj).cells.toArray)) 10 (by kernel_rfl) ?_;have hS:(fun w'=>cS w' g.gb 2 g.nA nn g.nC/\Blk w' gs 134 (⟨y,aa,n0,n1,n2,n3,lv⟩:Aj).cells.toArray) w5.drew:=⟨c5,fg⟩;obtain ⟨we,ch⟩:=Ab w5.drew;have fe:Fr Non w5 we:=by rw [<- ch.out];exact (Fr.refl Non w5).drew
    have a5:=bw.fr fe zr;have be:=b5.fr fe zq;have gf:=fe.size;rw [ch.out] at hS ⊢;refine tkM 0 6 hS (h:=?_);refine Bo 6 (by kernel_rfl) rfl (fun K hK=> ?_);go_simp;have fa:Fr Non we (we.alloc (.cells (⟨y,aa,n0,n1,n2,n3,lv⟩:Aj).cells.toArray 134)):=(Fr.refl Non we).alloc _;have bf:(fun w'=>cS w' g.gb 2 g.nA nn g.nC/\Blk w' gs 134 (⟨y,aa,n0,n1,n2,n3,lv⟩:Aj).cells.toArray) (we.alloc (.cells (⟨y,aa,n0,n1,n2,n3,lv⟩:Aj).cells.toArray 134)):=⟨fa.cell hS.1 zq,hS.2.fr fa zq⟩;have az:=a5.fr fa zr;have a4:=Rd.blk (n:=1) (size:=35) (l:=(⟨y,aa,n0,n1,n2,n3,lv⟩:Aj).cells) (Blk.new we 134 (⟨y,aa,n0,n1,n2,n3,lv⟩:Aj).cells.toArray) (by rw [bu]);have b6:=be.fr fa zq;have f6:=fe.trans fa zr;refine hK.out _ _ bf (fun hZ=> ?_);clear hZ hK K;try simp only [Ah,zl]
    generalize we.alloc (.cells (⟨y,aa,n0,n1,n2,n3,lv⟩:Aj).cells.toArray 134)=w6 at*;refine Bo 7 (by kernel_rfl) rfl (fun K hK=> ?_);refine Ap5 (base:=base) (.tmp 228) (.tmp 230) 127 (by rfl) (by rfl) (by rfl) T4 az a4 (by intro u hu;exact (Array.all_eq_true'.1 a8) u (by simpa using hu)) (by omega) (by omega) (by have:=f6.size;omega) ?_;intro A' c' w7 bc f7 cj;have bh:(fun w'=>cS w' g.gb 2 g.nA nn g.nC/\Blk w' gs 134 (⟨y,aa,n0,n1,n2,n3,lv⟩:Aj).cells.toArray) w7:=⟨f7.cell bf.1 ax,bf.2.fr f7 bo⟩;have b7:=b6.fr f7 ax;refine hK.out _ _ bh (fun hZ=> ?_);clear hZ hK K;try simp only [Ah,zl]
    refine Bo 8 (by kernel_rfl) rfl (fun K hK=> ?_);go_simp;refine hK.out _ _ bh (fun uu=> ?_);clear hK K;try simp only [Ah,zl]
    refine tkM 9 1 uu (h:=?_);clear uu;have bt:=lh (al.out A' c' w6 w7 ci f5 f6 bc f7 cj);have c7:cS w7 g.gb 2 g.nA nn g.nC:=bh.1;have z7:w7.frozen? ⟨g.gb,2,none⟩=false:=b7.frozen 2;refine Cp (by kernel_rfl) ?_;refine stT 10 (h:=?_);refine oD ?_;go_simp;clear hS bf bh bc f7 cj b7 c7 z7 al ci f5 f6 az a4 b6 be a5 fe gf fi ev a8;go_wp2_with fail
    go_ret
    exact bt.out
theorem Nb (base:Nat) (g:Gph) (x:OpL) (w:World) (hg:GAt w base g) (hat:x.at w w.heap.size) (hok:x.op.ok) (hkn:KindsAt w):
  Calls zp 43 #[.pointer (some ⟨g.gb,0,none⟩),.agg x.cells] w (AddPost base g x.op w):=
 addA.2 ⟨addB.2 ⟨addC.2 ⟨addD.2 ⟨Ap6⟩⟩⟩⟩ base g x w hg hat hok hkn
end Oq
namespace Oq
def sgn (o:Op):Op:={o with r:=Sg.r (sec Ca o.by_.toNat) o.bare,s:=Sg.s (sec Ca o.by_.toNat) o.bare}
theorem Ap7 (o:Op) (R S:Nat):({o with r:=R,s:=S}:Op).chk=o.chk:=rfl
theorem T5 (o:Op) (R S:Nat):({o with r:=R,s:=S}:Op).bare=o.bare:=rfl
theorem Ap8 (o:Op) (R S:Nat):({o with r:=R,s:=S}:Op).id=o.id:=by unfold Op.id;rw [T5]
theorem T6 (o:Op) (R S:Nat):({o with r:=R,s:=S}:Op).name=o.name:=by
 unfold Op.name;rw [Ap8]
theorem Ap9 (l:List Pn) (p:Nat->Bool) (o:Op) (R S:Nat):Cu l p ({o with r:=R,s:=S}:Op)=Cu l p o:=rfl
theorem H8 (o:Op):∃R S,sgn o={o with r:=R,s:=S}/\Sg.check (Sg.pub (sec Ca o.by_.toNat)) o.bare R S=true:=
 ⟨_,_,rfl,Sg.takes _ _ (A67 (Is _ _) (by decide))⟩
theorem Aq0 (o:Op):(sgn o).name=o.name:=by
 obtain ⟨R,S,h,_⟩:=H8 o;rw [h,T6]
theorem Aq1 (o:Op):(sgn o).by_=o.by_:=by
 obtain ⟨R,S,h,_⟩:=H8 o;rw [h]
theorem Aq2 (o:Op):(sgn o).sq=o.sq:=by
 obtain ⟨R,S,h,_⟩:=H8 o;rw [h]
theorem Aq3 (o:Op):(sgn o).at_=o.at_:=by
 obtain ⟨R,S,h,_⟩:=H8 o;rw [h]
theorem Aq4 (o:Op):(sgn o).past=o.past:=by
 obtain ⟨R,S,h,_⟩:=H8 o;rw [h]
theorem T7 {cards:List Cd} {l:List Pn} {o:Op} {c:Cd} (h1:o.chk=0) (h2:plc l o.name=none) (h3:l.length<200) (h4:Ev cards o.by_=some c) (h5:c.s=Sg.pub (sec Ca o.by_.toNat)) (h6:o.kind≠1\/l=[])
  (h7:o.past.any (fun id=>(plc l id).isNone)=false) (h8:clash l o.past=false) (h9:late l o.past<=o.at_) (h10:Cu l (Ak l o.past) o=false):Au cards l (sgn o)=0:=by
 obtain ⟨R,S,e,hc⟩:=H8 o;rw [e];unfold Au;rw [Ap7,T6,h1,h2,if_neg (by simp),if_neg (by simp),if_neg (by omega)];rw [show ({o with r:=R,s:=S}:Op).by_=o.by_ from rfl,h4];dsimp only;rw [T5,h5,hc,if_neg (by simp),if_neg (by rcases h6 with h|h<;>simp [h]),h7,if_neg (by simp),h8,if_neg (by simp;omega),Ap9,h10]
 simp
def Fs (b:Int):Op:={base b 1 1 0 [] [] with need:=0}
theorem Aq5 {b:Int} (hb:1<=b/\b<=12):(Fs b).chk=0:=
 Zw (h:=⟨by omega,hb,by omega,by omega,⟨by simp,by simp,List.Pairwise.nil,by simp⟩,⟨by simp,by simp,.inl rfl⟩⟩) (E7 (by omega))
theorem id_lt (o:Op):o.id<FP:=by unfold FP;exact Hs.of_lt _ _
theorem Aq6 {b s:Int} {u:Nat} (hb:1<=b/\b<=12) (hs:1<=s/\s<=2147483647) (hu:u<FP):(Id.mk b s u).named=true:=Zv hb hs hu
theorem T8 {o:Op} (hb:1<=o.by_/\o.by_<=12) (hs:1<=o.sq/\o.sq<=2147483647):o.name.named=true:=by
 unfold Op.name;exact Aq6 hb hs (id_lt o)
end Oq
namespace Oq
attribute [local go_sem ↓] Bq Dx
theorem Aq7 (x:OpL) (o:Op) (h:x.op=o) (u:Nat) (hu:o.by_.toNat=u) (S:Nat) (hS:sec Ca u=S):({x with r:=Sg.r S x.op.bare,s:=Sg.s S x.op.bare}:OpL).op=sgn o:=by
 rw [Ad7,h];unfold sgn;rw [hu,hS]
end Oq
section
open Go.RowKit Go.Sort Go.Shelf
namespace Oq
section
variable {α : Type} [Inhabited α] {enc : α -> List Value} {sz : Nat} (hlen : ∀ x, (enc x).length = sz) (hsz : 0 < sz)
include hlen hsz
theorem T9 (xs:List α) {j:Nat} (hj:j<xs.length*sz):(xs.flatMap enc)[j]? =some ((flatK enc sz xs.toArray)[j]!):=by
 rw [get_flatK _ _ _ _ (by simpa using hj)];have hk:j/sz<xs.length:=Nat.div_lt_of_lt_mul (by rwa [Nat.mul_comm] at hj);have hm:j%sz<sz:=Nat.mod_lt _ hsz;have h1:xs[j/sz]? =some xs[j/sz]:=A59 hk;have h2:=G7 (f:=enc) (size:=sz) hlen xs (j/sz) (j%sz) _ h1 hm;rw [Nat.mul_comm,Nat.div_add_mod] at h2;rw [h2];have h3:xs.toArray[j/sz]! =xs[j/sz]:=by simp [hk]
 rw [h3];have h4:j%sz<(enc xs[j/sz]).length:=by rw [hlen];exact hm
 rw [A59 h4];simp [h4]
theorem Aq8 {w:World} {base c:Nat} {t:TypeId} {g:Nat} {xs:List α} (h:Own w base t sz (some ⟨g,0,none⟩) xs.length c (xs.flatMap enc)):HoldsK enc sz w g 0 xs.toArray:=by
 intro j hj;have hj':j<xs.length*sz:=by simpa using hj
 obtain ⟨cur,hb,hl,hs⟩:=Ty h (by
  rcases Nat.eq_zero_or_pos xs.length with h0|h0
  · rw [h0] at hj';simp at hj'
  · exact h0)
 have hf:=T9 hlen hsz xs hj';rw [A60];refine ⟨?_,hb.frozen j⟩;rw [hb.cell j,id,<- hf,<- hl,List.getElem?_take_of_lt hj'];simp
theorem Aq9 {w:World} {base c:Nat} {t:TypeId} {g:Nat} {xs ys:List α} (n:Nat) (os:Array Obj) (h:Own w base t sz (some ⟨g,0,none⟩) xs.length c (xs.flatMap enc)) (hx:0<xs.length) (hl:ys.length=xs.length):
  Own (sortWorldK enc sz w g 0 n ys.toArray os) base t sz (some ⟨g,0,none⟩) ys.length c (ys.flatMap enc):=by
 have hyl:(ys.flatMap enc).length=ys.length*sz:=Er (f:=enc) hlen ys
 rcases h.2 with ⟨_,h0⟩|⟨g',cap,cur,hv,hb,hg,h1,h2,h3,h4⟩
 · omega
 ·
  injection hv with hA hn' hc
  injection hA with hA
  injection hA with hA
  subst hA;subst hc
  have hs:xs.length*sz<=cur.size:=by
   have h5:=congrArg List.length h4;rw [List.length_take,Array.length_toList,h.1] at h5;rw [<- h5];exact Nat.min_le_right _ _
  have hnew:=Tz (n:=n) (os:=os) (d:=flatK enc sz ys.toArray) (show Blk w g t cur from hg);refine ⟨hyl,.inr ⟨g,c,putCells id 0 (flatK enc sz ys.toArray) cur,rfl,hb,hnew,by omega,h2,?_,?_⟩⟩
  · simpa [putCells] using h3
  ·
   rw [<- hyl];exact T2 (by rw [hyl];simp) (fun j hj=>T9 hlen hsz ys (by omega)) (by rw [hyl,hl];exact hs)
end
end Oq
end
namespace Oq
theorem Ar0 (l:List Cd):∀v∈l.flatMap Cd.cells,v.oneCell'=true:=Kn _ (fun a v hv=>by simp [Cd.cells] at hv;rcases hv with rfl|rfl|rfl|rfl|rfl<;>rfl) l
end Oq
end Go.Proofs.YtmcpnjoomlgmlaaGreatDoor
namespace Go.Proofs
open Go.Shelf Go.RowKit Go.Lib Go.Sort
def Tryz.sortCards_ren:Go.Shelf.Ren:=⟨fun|6=>82|15=>143|14=>142|28=>174|29=>175|20=>166|21=>167|22=>168|23=>169|24=>170|25=>171|26=>172|27=>173|46=>208|47=>209|48=>210|49=>211|50=>212|57=>230|n=>n,fun|22=>23|24=>141|25=>144|3=>3|39=>170|0=>0|53=>235|55=>43|4=>4|46=>229|45=>228|50=>125|5=>5|9=>9|66=>257|70=>106|76=>267|77=>268|n=>n,fun|n=>n⟩
theorem Tryz.sortCards:Go.Proofs.SlLaysF0.n6 zp Tryz.sortCards_ren:={
  mixed:=by kernel_rfl
  f6:=⟨Tryz.f82.name,by decide,Tryz.func82.trans (congrArg some (by kernel_rfl))⟩
  f14:=⟨Tryz.f142.name,by decide,Tryz.func142.trans (congrArg some (by kernel_rfl))⟩
  f15:=Tryz.func143.trans (congrArg some (by kernel_rfl))
  f20:=⟨Tryz.f166.name,by decide,Tryz.func166.trans (congrArg some (by kernel_rfl))⟩
  f21:=⟨Tryz.f167.name,by decide,Tryz.func167.trans (congrArg some (by kernel_rfl))⟩
  f22:=⟨Tryz.f168.name,by decide,Tryz.func168.trans (congrArg some (by kernel_rfl))⟩
  f23:=⟨Tryz.f169.name,by decide,Tryz.func169.trans (congrArg some (by kernel_rfl))⟩
  f24:=⟨Tryz.f170.name,by decide,Tryz.func170.trans (congrArg some (by kernel_rfl))⟩
  f25:=⟨Tryz.f171.name,by decide,Tryz.func171.trans (congrArg some (by kernel_rfl))⟩
  f26:=⟨Tryz.f172.name,by decide,Tryz.func172.trans (congrArg some (by kernel_rfl))⟩
  f27:=⟨Tryz.f173.name,by decide,Tryz.func173.trans (congrArg some (by kernel_rfl))⟩
  f28:=Tryz.func174.trans (congrArg some (by kernel_rfl))
  f29:=Tryz.func175.trans (congrArg some (by kernel_rfl))
  f46:=⟨Tryz.f208.name,by decide,Tryz.func208.trans (congrArg some (by kernel_rfl))⟩
  f47:=Tryz.func209.trans (congrArg some (by kernel_rfl))
  f48:=Tryz.func210.trans (congrArg some (by kernel_rfl))
  f49:=⟨Tryz.f211.name,by decide,Tryz.func211.trans (congrArg some (by kernel_rfl))⟩
  f50:=⟨Tryz.f212.name,by decide,Tryz.func212.trans (congrArg some (by kernel_rfl))⟩
  f57:=⟨Tryz.f230.name,by decide,Tryz.func230.trans (congrArg some (by kernel_rfl))⟩
  t0:=underlying0
  a0:=isAgg0
  z0:=sizeOf0
  v0:=zeroValue0
  t3:=underlying3
  a3:=isAgg3
  z3:=sizeOf3
  v3:=zeroValue3
  t4:=underlying4
  a4:=isAgg4
  z4:=sizeOf4
  v4:=zeroValue4
  t5:=underlying5
  a5:=isAgg5
  z5:=sizeOf5
  v5:=zeroValue5
  t9:=underlying9
  a9:=isAgg9
  z9:=sizeOf9
  v9:=zeroValue9
  t22:=underlying23
  a22:=isAgg23
  z22:=sizeOf23
  v22:=zeroValue23
  t25:=underlying144
  a25:=isAgg144
  z25:=sizeOf144
  v25:=zeroValue144
  t39:=underlying170
  a39:=isAgg170
  z39:=sizeOf170
  v39:=zeroValue170
  t45:=underlying228
  a45:=isAgg228
  z45:=sizeOf228
  v45:=zeroValue228
  t46:=underlying229
  a46:=isAgg229
  z46:=sizeOf229
  v46:=zeroValue229
  t50:=underlying125
  a50:=isAgg125
  z50:=sizeOf125
  v50:=zeroValue125
  t53:=underlying235
  a53:=isAgg235
  z53:=sizeOf235
  v53:=zeroValue235
  t55:=underlying43
  a55:=isAgg43
  z55:=sizeOf43
  v55:=zeroValue43
  t66:=underlying257
  a66:=isAgg257
  z66:=sizeOf257
  v66:=zeroValue257
  t70:=underlying106
  a70:=isAgg106
  z70:=sizeOf106
  v70:=zeroValue106
  t76:=underlying267
  a76:=isAgg267
  z76:=sizeOf267
  v76:=zeroValue267
  t77:=underlying268
  a77:=isAgg268
  z77:=sizeOf268
  v77:=zeroValue268}
end Go.Proofs
namespace Go.Proofs.YtmcpnjoomlgmlaaGreatDoor
open Go.RowKit
attribute [local go_sem ↓] Go.wp_at_zero Go.wp_at_succ
section
open Go.RowKit Go.Sort Go.Shelf
namespace Oq
structure CdR where
 c:Cd
 lo:0<=c.d
 hi:c.d<=1000
instance:Inhabited CdR:=⟨⟨⟨0,0,0,0,0⟩,Int.le_refl _,by decide⟩⟩
def CdR.cells (x:CdR):List Value:=x.c.cells
def I4 (x y:CdR):Int:=x.c.d-y.c.d
theorem Lc (x y:CdR):ltOf I4 x y=decide (x.c.d<y.c.d):=by
 unfold ltOf I4;rw [Bool.eq_iff_iff,decide_eq_true_iff,decide_eq_true_iff];omega
theorem Ar1:SWO (ltOf I4) where
 irrefl x:=by rw [Lc];simp
 trans x y z h1 h2:=by
  rw [Lc,decide_eq_true_iff] at*;omega
 ntrans x y z h1 h2:=by
  rw [Lc,decide_eq_false_iff_not] at*;omega
theorem Ar2 (x y:Cd) (w:World) (hx0:0<=x.d) (hx1:x.d<=1000) (hy0:0<=y.d) (hy1:y.d<=1000):
  Calls zp 83 #[.agg #[.int .i64 x.d,.int .i64 x.m,.int .u64 (x.l:Int),.int .u64 (x.k:Int),.int .u64 (x.s:Int)],.agg #[.int .i64 y.d,.int .i64 y.m,.int .u64 (y.l:Int),.int .u64 (y.k:Int),.int .u64 (y.s:Int)]] w fun e w'=>e=.returned (.int .i64 (x.d-y.d))/\GrowOf w w':=by
 have hf:=((GrowOf.refl w).alloc (.cells #[.int .i64 x.d,.int .i64 x.m,.int .u64 (x.l:Int),.int .u64 (x.k:Int),.int .u64 (x.s:Int)] 141)).alloc (.cells #[.int .i64 y.d,.int .i64 y.m,.int .u64 (y.l:Int),.int .u64 (y.k:Int),.int .u64 (y.s:Int)] 141);go_enter func83,ntmps83;go_wp2
 go_ret
 exact ⟨rfl,hf⟩
theorem Ar3 (blk off size:Nat) (w:World):CmpLays zp 83 #[] CdR.cells 5 I4 blk off size w:=
 fun _ _ _ _ x y=>Ar2 x.c y.c _ x.lo x.hi y.lo y.hi
theorem Ar4 (base:Nat) (A:Option Addr) (c:Nat) (xs:List CdR) (w:World) (hown:Own w base 141 5 A xs.length c (xs.flatMap CdR.cells)) (hlen:xs.length<=1000000):
  Calls zp 82 #[.slice A xs.length c,.func (.func 83) #[] #[]] w fun e w'=>e=.returned (.tuple #[])/\
   ∃ys:List CdR,ys.Perm xs/\ys.Pairwise (fun x y=>x.c.d<=y.c.d)/\Own w' base 141 5 A ys.length c (ys.flatMap CdR.cells)/\Fr (fun k=>Ad A=some k) w w':=by
 by_cases h0:xs.length=0
 ·
  have hx:xs=[]:=A71 h0;subst hx;have hcon:=AnyF.slices_SortFunc_none Tryz.sortCards A c (.func (.func 83) #[] #[]) w;refine Calls.mono hcon ?_;rintro e w' ⟨rfl,rfl⟩;exact ⟨rfl,[],List.Perm.refl _,List.Pairwise.nil,hown,Fr.refl _ _⟩
 ·
  obtain ⟨g,rfl⟩:∃g,A=some ⟨g,0,none⟩:=by
   rcases hown.2 with ⟨_,hn⟩|⟨g,cap,cur,hv,_⟩
   · exact absurd hn h0
   ·
    injection hv with hA _ _
    exact ⟨g,hA⟩
  have hrow:=hown.row g rfl;have eg:∀args w,(callFunc 83 args).run zp w=.ok (.enter 83 args) w:=enters_of func83 (by kernel_rfl) rfl;have hcon:=AnyQ.slices_SortFunc Tryz.sortCards 5 isAgg141 sizeOf141 CdR.cells (fun _=>rfl) (fun x v hv=>by simp [CdR.cells,Cd.cells] at hv;rcases hv with rfl|rfl|rfl|rfl|rfl<;>rfl) I4 Ar1 83 #[] g 0 c xs.toArray w eg (Ar3 g 0 _ w) (Aq8 (enc:=CdR.cells) (fun _=>rfl) (by decide) hown) hrow.2 (by simp;omega)
  refine Calls.mono hcon ?_;rintro e w' ⟨rfl,d',n,os,hp,hs,rfl⟩;have hds:d'.size=xs.length:=by rw [hp.1];simp
  have hperm:d'.toList.Perm xs:=by
   have h1:=hp.2.2
   have e1:d'.extract 0 xs.toArray.size=d':=by
    rw [show xs.toArray.size=d'.size from hp.1.symm];simp
   have e2:xs.toArray.extract 0 xs.toArray.size=xs.toArray:=by simp
   rw [e1,e2] at h1;simpa using h1
  refine ⟨rfl,d'.toList,hperm,?_,?_,?_⟩
  ·
   rw [A72];intro i j hi hj hij;have h1:=hs i j (A62 _) hij (by rw [<- hp.1];simpa using hj);rw [Lc] at h1;have hi':i<d'.size:=by simpa using hi
   have hj':j<d'.size:=by simpa using hj
   rw [getElem!_pos d' i hi',getElem!_pos d' j hj',decide_eq_false_iff_not] at h1;have h2:d'.toList[i]=d'[i]:=by simp
   have h3:d'.toList[j]=d'[j]:=by simp
   rw [h2,h3];omega
  ·
   have h1:=Aq9 (enc:=CdR.cells) (sz:=5) (fun _=>rfl) (by decide) (ys:=d'.toList) n os hown (by omega) (by simpa using hds);simpa using h1
  · exact (T0 w g n _ os).mono (fun k hk e=>by have e':k=g:=e;subst e';rfl)
theorem Ar5 {xs ys:List CdR} (hp:ys.Perm xs) (hs:ys.Pairwise (fun x y=>x.c.d<=y.c.d)) (hx:xs.Pairwise (fun x y=>x.c.d<y.c.d)):ys=xs:=by
 induction xs generalizing ys with
 |nil=>exact List.Perm.eq_nil hp
 |cons x r ih=>
  cases ys with
  |nil=>exact absurd hp.length_eq (by simp)
  |cons y q=>
   rw [List.pairwise_cons] at hs hx
   have hxy:y=x:=by
    have hy:y∈x::r:=hp.subset (by simp)
    rcases List.mem_cons.1 hy with h|h
    · exact h
    ·
     have h1:=hx.1 y h;have hx':x∈y::q:=hp.symm.subset (by simp)
     rcases List.mem_cons.1 hx' with h2|h2
     · exact h2.symm
     ·
      have h3:=hs.1 x h2;omega
   subst hxy;rw [ih (List.perm_cons y|>.1 hp) hs.2 hx.2]
end Oq
end
namespace Oq
def I5 (cards:List Cd) (w:World) (e:Ending) (w':World):Prop:=
 ∃g:Gph,e=.returned (.pointer (some ⟨g.gb,0,none⟩))/\GAt w' w.heap.size g/\g.nodes=[]/\g.cards=cards/\Fr Non w w'
theorem N4 (l:List CdR):l.flatMap CdR.cells=(l.map CdR.c).flatMap Cd.cells:=by
 rw [List.flatMap_map];rfl
theorem Ar6 (B c:Nat) (A:Option Addr) (l:List CdR) (w:World) (hr:Rd w B 5 A l.length (l.flatMap CdR.cells)) (hs:l.Pairwise (fun x y=>x.c.d<y.c.d)) (hlen:l.length<=1000000) (hpos:0<w.heap.size) (hcs:∀x∈l,x.c.s<18446744073709551616):
  Calls zp 36 #[.slice A l.length c] w (I5 (l.map CdR.c) w):=by
 have kc:=lh (Ag1 B l.length c A _ w hr (by rw [N4];exact Ar0 _) hlen)
 have ad:Hid (∀(A1:Option Addr) (c1:Nat) (w1 w4:World),Fr Non w w1->Own w4 w.heap.size 141 5 A1 l.length c1 (l.flatMap CdR.cells)->
   Fr (fun k=>Ad A1=some k) ((w1.alloc (.map #[] 0)).alloc (.cells #[.slice A1 l.length c1,.map (some w1.heap.size),.slice none 0 0] 129)) w4->(∀k,Ad A1=some k->w.heap.size<=k/\k<w1.heap.size)->
   I5 (l.map CdR.c) w (.returned (.pointer (some ⟨w1.heap.size+1,0,none⟩))) w4):=by
  intro A1 c1 w1 w4 f1 o4 f4 aa;have ai:¬Ad A1=some w1.heap.size:=fun e=>by have:=(aa _ e).2;omega
  have ag:¬Ad A1=some (w1.heap.size+1):=fun e=>by have:=(aa _ e).2;omega
  have bg:=Blk.new (w1.alloc (.map #[] 0)) 129 #[.slice A1 l.length c1,.map (some w1.heap.size),.slice none 0 0];rw [A68] at bg;have hm:=((MapAt.made w1).fr ((Fr.refl Non _).alloc (.cells #[.slice A1 l.length c1,.map (some w1.heap.size),.slice none 0 0] 129)) zq).fr f4 ai;have sz:=f1.size;refine ⟨⟨w1.heap.size+1,w1.heap.size,0,A1,c1,l.map CdR.c,none,0,[]⟩,rfl,?_,rfl,rfl,?_⟩
  ·
   refine ⟨?_,hpos,by show _<=w1.heap.size+1;omega,sz,?_,Own.nil _ _ _ _,A62 _,A62 _,(fun n hn=>absurd hn (A73)),?_,?_,hm,fun n hn=>absurd hn (A73)⟩
   ·
    have h1:=bg.fr f4 ag;show Blk w4 (w1.heap.size+1) 129 #[.slice A1 (l.map CdR.c).length c1,.map (some w1.heap.size),.slice none 0 0];rw [A61];exact h1
   ·
    show Own w4 w.heap.size 141 5 A1 (l.map CdR.c).length c1 ((l.map CdR.c).flatMap Cd.cells);rw [A61,<- N4];exact o4
   ·
    show (l.map CdR.c).length<=1000000;rw [A61];exact hlen
   ·
    intro c hc;obtain ⟨x,hx,rfl⟩:=List.mem_map.1 hc;exact hcs x hx
  · exact ((f1.alloc _).alloc _).trans f4 (fun k hk e=>absurd hk (by have:=(aa k e).1;omega))
 generalize I5 (l.map CdR.c) w=POST at*;have ks:=lh (fun (A1:Option Addr) (c1:Nat) (w3:World) (o:Own w3 w.heap.size 141 5 A1 l.length c1 (l.flatMap CdR.cells))=>Ar4 w.heap.size A1 c1 l w3 o hlen);have ac:=lh (fun (ys:List CdR) (hp:ys.Perm l) (hq:ys.Pairwise (fun x y=>x.c.d<=y.c.d))=>Ar5 hp hq hs);clear hr hs hcs;go_enter func36,ntmps36;go_wp2_with fail;refine (kc.out).mono ?_;rintro _ w1 ⟨A1,c1,rfl,o1,f1⟩;have aa:=o1.row;have bg:=Blk.new (w1.alloc (.map #[] 0)) 129 #[.slice A1 l.length c1,.map (some w1.heap.size),.slice none 0 0];rw [A68] at bg;have o3:=(o1.alloc (.map #[] 0)).alloc (.cells #[.slice A1 l.length c1,.map (some w1.heap.size),.slice none 0 0] 129);have g0:cS ((w1.alloc (.map #[] 0)).alloc (.cells #[.slice A1 l.length c1,.map (some w1.heap.size),.slice none 0 0] 129)) (w1.heap.size+1) 0 A1 l.length c1:=bg.cell 0;have kq:=lh (ks.out A1 c1 _ o3);have hp:=lh (fun (w4:World) o f=>ad.out A1 c1 w1 w4 f1 o f aa);have ah:=lh f1;clear kc ks ad o1 o3 aa f1 bg;have aj:=@run_makeMap zp;go_wp2_with fail;refine (kq.out).mono ?_;rintro _ w4 ⟨rfl,ys,ab,ae,o4,f4⟩;obtain rfl:=ac.out ys ab ae;have af:=lh (hp.out w4 o4 f4);clear kq hp ac o4 f4 ab ae ah g0;go_wp2_with fail;exact af.out
theorem Ar7 (n:Nat):Sg.pub n<18446744073709551616:=A67 (Fd.pow_lt _ _) (by decide)
theorem cd_d (d m:Int) (l k s:Nat):(Cd.mk d m l k s).d=d:=rfl
theorem cd_s' (d m:Int) (l k s:Nat):(Cd.mk d m l k s).s=s:=rfl
theorem Ej (k:Nat) (m:Int):(Cs k m).d=(k:Int)+1:=cd_d _ _ _ _ _
theorem I6 (k:Nat) (m:Int):(Cs k m).s=Sg.pub (sec Ca (k+1)):=cd_s' _ _ _ _ _
theorem N5:∀(l:List Int) (i:Nat),i+l.length<=1000->∃xs:List CdR,xs.map CdR.c=Bb i l/\xs.Pairwise (fun x y=>x.c.d<y.c.d)/\(∀x∈xs,(i:Int)<x.c.d)/\∀x∈xs,x.c.s<18446744073709551616
 |[],i,_=>⟨[],rfl,List.Pairwise.nil,by simp,by simp⟩
 |m::r,i,h=>by
  have h':i+1+r.length<=1000:=by rw [List.length_cons] at h;omega
  have hi:i+1<=1000:=by omega
  obtain ⟨xs,h1,h2,h3,h4⟩:=N5 r (i+1) h';refine ⟨⟨Cs i m,by rw [Ej];omega,by rw [Ej];omega⟩::xs,?_,?_,?_,?_⟩
  ·
   show Cs i m::xs.map CdR.c=Cs i m::Bb (i+1) r;rw [h1]
  ·
   refine List.pairwise_cons.2 ⟨fun x hx=> ?_,h2⟩;show (Cs i m).d<x.c.d;rw [Ej];have:=h3 x hx;omega
  ·
   intro x hx
   rcases List.mem_cons.1 hx with rfl|hx
   ·
    show (i:Int)<(Cs i m).d;rw [Ej];omega
   ·
    have:=h3 x hx;omega
  ·
   intro x hx
   rcases List.mem_cons.1 hx with rfl|hx
   ·
    show (Cs i m).s<_;rw [I6];exact Ar7 _
   · exact h4 x hx
theorem Ar8 (B n c:Nat) (A:Option Addr) (l:List Int) (w:World) (hn:Hid (l.length=n)) (hnm:n<=1000) (hr:Rd w B 5 A n ((Bb 0 l).flatMap Cd.cells)) (hpos:0<w.heap.size):
  Calls zp 36 #[.slice A n c] w (I5 (Bb 0 l) w):=by
 obtain ⟨xs,h1,h2,_,h4⟩:=N5 l 0 (by rw [hn.out];omega)
 have hl:xs.length=n:=by
  have:=congrArg List.length h1;rw [A61,It,hn.out] at this;exact this
 rw [<- h1] at hr ⊢;rw [<- hl] at hr ⊢;rw [<- N4] at hr;exact Ar6 B c A xs w hr h2 (by omega) hpos h4
theorem GAt.ge {w:World} {base:Nat} {g:Gph} (h:GAt w base g) {k:Nat} (hk:g.own k):base<=k:=by
 rcases hk with e|e|e
 · rw [e];exact h.gbase
 · rw [e];exact h.mbase
 · exact (h.own.row k e).1
theorem KindsAt.own {w w':World} {base:Nat} {g:Gph} (h:KindsAt w) (hg:GAt w base g) (hf:Fr g.own w w'):KindsAt w':=fun k hk=>hf.cell (h k hk) (fun e=>by have h1:=hg.ge e;have h2:=hg.pos;have h3:base<=0:=h1;omega)
theorem Blk.keepG {w w':World} {base b:Nat} {g:Gph} {t:TypeId} {cs:Array Value} (h:Blk w b t cs) (hg:GAt w base g) (hf:Fr g.own w w') (ht:¬Gty t):Blk w' b t cs:=h.fr hf (fun e=>ht (hg.types _ _ _ _ h e))
theorem OpL.own.keepG {w w':World} {base bx:Nat} {g:Gph} {x:OpL} (h:x.own w bx) (hg:GAt w base g) (hf:Fr g.own w w'):x.own w' bx:=
 h.keepP hf hg.types (by unfold Gty;decide) (by unfold Gty;decide) (by unfold Gty;decide) (by unfold Gty;decide) (by unfold Gty;decide) (by unfold Gty;decide) (by unfold Gty;decide)
def Rs (base:Nat) (g:Gph) (l:List Pn) (w:World) (e:Ending) (w':World):Prop:=
 e=.returned (.int .i64 0)/\∃g':Gph,GAt w' base g'/\g'.gb=g.gb/\g'.cards=g.cards/\g'.pns=l/\Fr g.own w w'
theorem Ar9 {o:Op} (h:o.ok):(sgn o).ok:=by
 have h1:Sg.r (sec Ca o.by_.toNat) o.bare<18446744073709551616:=A67 (Sg.r_lt _ _) (by decide);have h2:Sg.s (sec Ca o.by_.toNat) o.bare<18446744073709551616:=A67 (Sg.s_lt _ _) (by decide);unfold sgn;generalize Sg.r (sec Ca o.by_.toNat) o.bare=R at*;generalize Sg.s (sec Ca o.by_.toNat) o.bare=S at*;exact {h with r:=h1,s:=h2}
end Oq
namespace Oq
attribute [local go_sem ↓] Bq Dx
attribute [local go_sem] A63 A64
theorem Rows.step {cards:List Cd} {l:List Pn} (h:Rows cards l) {i:Nat} {n:Pn} (hi:l[i]? =some n):Au cards (l.take i) n.o=0/\Az (l.take i) n.o=n:=by
 induction h with
 |nil=>simp at hi
 |snoc l o hl ho ih=>
  rcases Nat.lt_or_ge i l.length with hlt|hge
  ·
   rw [List.getElem?_append_left hlt] at hi;rw [List.take_append_of_le_length (A70 hlt)];exact ih hi
  ·
   have e:i=l.length:=by
    have:=(List.getElem?_eq_some_iff.1 hi).1;rw [List.length_append,List.length_singleton] at this;omega
   subst e;rw [List.getElem?_append_right (A69 _),Nat.sub_self] at hi;injection hi with hi
   subst hi;rw [List.take_left']
   · exact ⟨ho,rfl⟩
   · rfl
end Oq
namespace Oq
def bef (l:List Pn) (a b:Id):Bool:=match plc l a,plc l b with|some i,some j=>(l[j]?.map (fun n=>n.ps i)).getD false|_,_=>false
theorem bef_iff {l:List Pn} {a b:Id}:bef l a b=true<->∃i j m,plc l a=some i/\plc l b=some j/\l[j]? =some m/\m.ps i=true:=by
 unfold bef;constructor
 ·
  intro h
  split at h
  ·
   rename_i i j hi hj;obtain ⟨m,hm,_⟩:=Cg hj;rw [hm] at h;exact ⟨i,j,m,hi,hj,hm,h⟩
  · cases h
 ·
  rintro ⟨i,j,m,h1,h2,h3,h4⟩;rw [h1,h2];dsimp only;rw [h3];exact h4
theorem Gph.level_eq (g:Gph) (a:Id):g.level a=Ao g.pns a:=by
 unfold Gph.level Ao Gph.pns;rw [Gv]
 split
 ·
  rename_i i hi;rw [hi];dsimp only;rw [A65,Option.map_map];rfl
 ·
  rename_i hi;rw [hi]
theorem As0 (l:List Aj):∀k,k<=l.length->Fo l (fun _=>true) k=(l.take k).map Aj.id:=by
 intro k
 induction k with
 |zero=>intro _;rfl
 |succ k ih=>
  intro hk;have hx:l[k]? =some l[k]:=A59 (by omega);rw [S5 l _ k hx,ih (by omega),Df hx,List.map_append,if_pos rfl];rfl
theorem Ua {g:Gph} {l:List Pn} (hl:g.pns=l) {ids:List Id} (h:ids.Perm (Fo g.nodes (fun _=>true) g.nodes.length)):ids.Perm (l.map Pn.id):=by
 subst hl;rw [As0 _ _ (A69 _),List.take_length] at h;unfold Gph.pns;rw [List.map_map];exact h
