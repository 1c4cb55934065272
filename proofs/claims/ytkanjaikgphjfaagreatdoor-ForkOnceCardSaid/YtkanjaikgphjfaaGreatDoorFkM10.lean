/-
  Contracts of the functions that the claim's statement reaches, walked one by one (part 10).
  Conditions: as each theorem says.
-/
import Derived.Shelf.SlSortCmp.NoneTotal
import Derived.Shelf.SlSortCmp.WholeK
import Derived.Ground.SlsfProg
import Derived.Ground.NamesProg
import Derived.Shelf.SlGeneric
import Derived.ChangeKeysEq
import Derived.Great.BuildSlice
import Derived.Test.YtkanjaikgphjfaaGreatDoorFkM1
import Derived.Test.YtkanjaikgphjfaaGreatDoorFkM2
import Derived.Test.YtkanjaikgphjfaaGreatDoorFkM3
import Derived.Test.YtkanjaikgphjfaaGreatDoorFkM5
import Derived.Test.YtkanjaikgphjfaaGreatDoorFkM6
import Derived.Test.YtkanjaikgphjfaaGreatDoorFkM9
import Derived.Test.YtkanjaikgphjfaaGreatDoorFkM19
set_option maxRecDepth 100000
set_option maxHeartbeats 16000000
open Array renaming length_toList→Ah0,getElem?_append_left→Ah8,getElem?_modify→Ah9
open Bool renaming not_false→Af9,not_true→Ag0,eq_false_or_eq_true→Ah5,and_eq_true→Ah6
open List renaming getElem?_eq_getElem→Af8,length_map→Ag1,length→Ag5,getElem?_map→Ag6,mem_of_getElem?→Ag7,length_take→Ag9,getElem?_take_of_lt→Ah1,any_eq_false→Ah4,eq_nil_of_length_eq_zero→Ah7,not_mem_nil→Ai0
open Nat renaming zero_add→Ag2,lt_trans→Ag3,le_of_lt→Ag4,ne_of_lt→Ag8,zero_le→Ah3
open Go.World renaming size_alloc→Ah2
namespace Go.Proofs.YtkanjaikgphjfaaGreatDoor
namespace Oq
end Oq
section
open Go.RowKit
attribute [local go_sem ↓] Go.wp_at_zero Go.wp_at_succ
namespace Oq
theorem Xv {G P:Prop} (h:P→G) (hp:P):G:=h hp
theorem Ik {c:Prop} [Decidable c] {A B:Prop} (h:c) (ha:A):if c then A else B:=by rw [if_pos h];exact ha
def bdS (t:TypeId) (parts:Array (Nat × Value)):=Instr.build t parts
theorem Ps (p:Array (Nat × Value)):Instr.build 98 p=bdS 98 p:=rfl
theorem Xw {P:Program} (w:World) (t:TypeId) (parts:Array (Nat × Value)) (cells:Array Value) (h:P.built t parts.toList=some cells):(bdS t parts).run P w=.ok (.agg cells) w:=run_build w t parts cells h
attribute [local go_sem ↓] Ce H9 Ia Ps
attribute [local go_sem] Af9 Ag0
def AddPost (base:Nat) (g:Gph) (o:Op) (w:World) (e:Ending) (w':World):Prop:=
 e=.returned (.int .i64 (An g.cards g.pns o))∧
 ((An g.cards g.pns o≠0∧Fr Non w w')∨(An g.cards g.pns o=0∧∃g':Gph,GAt w' base g'∧g'.gb=g.gb∧g'.mb=g.mb∧g'.cards=g.cards∧g'.pns=g.pns++[Aq g.pns o]∧Fr g.own w w'∧(∀k,k<w.heap.size→g'.own k→g.own k)∧∃n:Af,g'.nodes=g.nodes++[n]∧n.x.own w' w.heap.size))
theorem AddPost.bad {base:Nat} {g:Gph} {o:Op} {w w':World} {err:Int} (h:An g.cards g.pns o=err) (h0:err≠0) (hf:Fr Non w w'):AddPost base g o w (.returned (.int .i64 err)) w':=by
 subst h;exact ⟨rfl,.inl ⟨h0,hf⟩⟩
theorem Xx (y:OpL) (b s:Int) (u:Nat):Tryz.prog.built 98 [(0,.agg y.cells),(1,.agg #[.int .i64 b,.int .i64 s,.int .u64 (u:Int)]),(3,.int .i64 1)]=some (⟨y,⟨b,s,u⟩,0,0,0,0,1⟩:Af).cells.toArray:=by kernel_rfl
structure Kl (w w':World) (base:Nat) (g:Gph) (x y:OpL) (gn:Nat):Prop where
 hg:GAt w base g
 hat:x.at w w.heap.size
 hok:x.op.ok
 bx:Blk w' w.heap.size 67 x.cells
 bn:Blk w' gn 98 (⟨y,x.op.name,0,0,0,0,1⟩:Af).cells.toArray
 gn:w.heap.size<gn
 yop:y.op=x.op
 yown:y.own w' w.heap.size
 fr:Fr Non w w'
 chk:x.op.chk=0
 few:g.nodes.length<200
 all:x.past.any (fun id=>(plc g.pns id).isNone)=false
 new:plc g.pns x.op.name=none
 err:An g.cards g.pns x.op=if clash g.pns x.op.past=true∨x.op.at_<late g.pns x.op.past then 6 else if Bu g.pns (Ad g.pns x.op.past) x.op=true then 11 else 0
section
variable {cards : List Cd} {l : List Pn} {o : Op}
theorem Xy (h:o.chk≠0):An cards l o=o.chk:=by unfold An;rw [if_pos h]
theorem Xz (h:o.chk=0) (h2:(plc l o.name).isSome=true):An cards l o=5:=by unfold An;rw [h,if_neg (by simp),if_pos h2]
theorem Ya (h:o.chk=0) (h2:plc l o.name=none) (h3:200≤l.length):An cards l o=3:=by unfold An;rw [h,h2,if_neg (by simp),if_neg (by simp),if_pos h3]
theorem Yc (h:o.chk=0) (h2:plc l o.name=none) (h3:l.length<200):An cards l o=match Dn cards o.by_ with
  |none=>17
  |some c=>
   if Sg.check c.s o.bare o.r o.s=false then 12
   else if o.kind=1∧l≠[] then 1
   else if o.past.any (fun id=>(plc l id).isNone)=true then 10
   else if clash l o.past=true∨o.at_<late l o.past then 6
   else if Bu l (Ad l o.past) o=true then 11
   else 0:=by unfold An;rw [h,h2,if_neg (by simp),if_neg (by simp),if_neg (by omega)];rfl
end
theorem Km (o:Op):U64 o.id:=by
 have h:o.id<2305843009213693951:=Hs.of_lt _ _;exact Ag3 h (by decide)
theorem Yd (g:Gph) (l:List Id):(l.filter (fun id=> !(Ae g.nodes id).isSome)).length=0↔l.any (fun id=>(plc g.pns id).isNone)=false:=by
 rw [List.length_eq_zero_iff,List.filter_eq_nil_iff,Ah4]
 have h:∀id,(plc g.pns id).isNone=!(Ae g.nodes id).isSome:=by
  intro id;show (plc (g.nodes.map Af.pn) id).isNone=_;rw [Fb]
  cases Ae g.nodes id<;>rfl
 constructor
 ·
  intro h1 id hid;rw [h];exact h1 id hid
 ·
  intro h1 id hid;have:=h1 id hid;rwa [h] at this
structure AddS0 (w w':World) (base:Nat) (g:Gph) (x y:OpL) (gn ui:Nat):Prop where
 hg:GAt w base g
 hat:x.at w w.heap.size
 hok:x.op.ok
 chk:x.op.chk=0
 id:x.op.id=ui
 bx:Blk w' w.heap.size 67 x.cells
 bn:Blk w' gn 98 (⟨y,⟨x.by_,x.sq,ui⟩,0,0,0,0,1⟩:Af).cells.toArray
 gn:w.heap.size<gn
 yop:y.op=x.op
 yown:y.own w' w.heap.size
 fr:Fr Non w w'
def addA:PSigma (fun P:Prop=>PLift P→∀(base:Nat) (g:Gph) (x:OpL) (w:World),GAt w base g→x.at w w.heap.size→x.op.ok→KindsAt w→Calls Tryz.prog 34 #[.pointer (some ⟨g.gb,0,none⟩),.agg x.cells] w (AddPost base g x.op w)):=PSigma.mk _ (by
 intro hP base g x w hg hat hok hkn;have hi:(Tryz.prog.info? 67).map (·.size)=some 27:=by kernel_rfl
 have bo:(Tryz.prog.info? 98).map (·.size)=some 35:=by kernel_rfl
 have au:x.past.length≤1000000:=by have h:=hok.past.1;rw [show x.op.past=x.past from rfl] at h;omega
 have f0:Fr Non w (w.alloc (.cells x.cells 67)):=(Fr.refl Non w).alloc _;have bt:=Blk.new w 67 x.cells;have bu:=Cf (P:=Tryz.prog) w.heap.size 67 Tryz.underlying67 rfl (cs:=x.cells) hi;have ai:=Lib.hid (fun w' (h:Fr Non w w')=>J7 x w' (OpL.frame hat h) hok (hkn.fr h));have bj:=Lib.hid (fun w' (h:x.at w' w'.heap.size)=>Vu x w' h hok);have a1:=Lib.hid (fun w' (h:x.at w' w'.heap.size)=>Uk x w' h hok);have b2:=Lib.hid (fun w' (h:Fr Non w w')=>Nf base g x.by_ w' (hg.fr h) hg.cfew);have br:=Lib.hid (fun (c:Cd) (hc:c.s<18446744073709551616) w' (h:x.at w' w'.heap.size)=>Oa c.d c.m c.l c.k c.s x w' h hok hc);have bw:=Lib.hid (fun w' (h:Fr Non w w')=>Ov base g x w' O0 (hg.fr h) (OpL.frame hat h) (fun id hid=>hok.past.2 id hid) au);have bn:=Lib.hid (fun (y:OpL) (ui:Nat) (w':World)=>Xw (P:=Tryz.prog) w' 98 #[(0,.agg y.cells),(1,.agg #[.int .i64 x.by_,.int .i64 x.sq,.int .u64 (ui:Int)]),(3,.int .i64 1)] _ (Xx y x.by_ x.sq ui));have a4:=Lib.hid (fun (err:Int) (w':World) (h:An g.cards g.pns x.op=err) (h0:err≠0) (hf:Fr Non w w')=>AddPost.bad (base:=base) h h0 hf);have a5:=Km x.op;obtain ⟨ui,bh⟩:=Aa x.op.id
 have ax:Hid (x.op.name=⟨x.by_,x.sq,ui⟩):=by
  show _=_;unfold Op.name;rw [bh.out];rfl
 have bs:Hid (plc g.pns x.op.name=Ae g.nodes ⟨x.by_,x.sq,ui⟩):=by
  show _=_;rw [ax.out];exact Fb _ _
 rw [bh.out] at a5;have bc:(Id.mk x.by_ x.sq ui).ok:=⟨hok.by_,hok.sq,a5⟩;obtain ⟨CX,a9⟩:=Aa x.cells;have e0:Hid (CX[0]? =some (.int .i64 x.by_)):=by show _=_;rw [← a9.out];rfl
 have e2:Hid (CX[2]? =some (.int .i64 x.kind)):=by show _=_;rw [← a9.out];rfl
 rw [a9.out] at f0 bt bu ai bj a1 br bw ⊢;have b5:=Lib.hid hg;have be:=Lib.hid hok;have bq:=Lib.hid hat;unfold Pp at ai;unfold J5 at a1;unfold Gh at b2;unfold Ac at br;obtain ⟨EC,bi⟩:=Aa x.op.chk;rw [bi.out] at ai;rw [bh.out] at a1;have bd:Hid (∀e w',AddPost base g x.op w e w'→AddPost base g x.op w e w'):=fun _ _ h=>h;clear hkn hok;go_enter Tryz.func34,Tryz.ntmps34;go_upto_region 1 with (fail)
 generalize w.alloc (.cells CX 67)=w0 at*;go_wp2_with (fail);refine (ai.out _ f0).mono ?_;rintro _ w1 ⟨rfl,f1⟩;have b0:=bt.fr f1 zq;have al:=f0.trans f1 zr;clear bt f0 f1 ai
 by_cases hc0:EC=0
 case neg=>
  have hb:(EC !=0)=true:=by simpa using hc0
  have ba:=Lib.hid (a4.out EC w1 ((Xy (by rw [bi.out];exact hc0)).trans bi.out) hc0 al);clear hc0 a4 hP;go_wp2_with (fail)
  go_ret
  exact ba.out
 case pos=>
  subst hc0;go_upto_region 4 with (fail)
  obtain ⟨wd,bb⟩:=Aa w1.drew;have aq:Blk wd w.heap.size 67 CX:=by rw [← bb.out];exact b0.drew
  have a8:Fr Non w wd:=by rw [← bb.out];exact al.drew
  have bk:x.at wd wd.heap.size:=OpL.frame hat a8;have bv:w.heap.size<wd.heap.size:=aq.lt;apply Xv
  case h=>
   intro ba;refine wp_region_held_drew (S:=fun w'=>Blk w' w.heap.size 67 CX) (by kernel_rfl) (by rw [bb.out];exact aq) (fun _=> ?_);rw [bb.out];refine wpAnyH_take (i:=0) (v:=?_) rfl (by kernel_rfl) (by kernel_rfl) (by kernel_rfl) (fun _ _ _ h=>h) (Or.inl ⟨by kernel_rfl,?_⟩) aq ?_;rotate_left
   focus (intro w' ao;have b1:=ao;(try dsimp only at b1);go_simp;(try with_reducible rfl))
   try simp only [put_lit2,List.set]
   refine wpAnyH_take (i:=2) (v:=?_) rfl (by kernel_rfl) (by kernel_rfl) (by kernel_rfl) (fun _ _ _ h=>h) (Or.inl ⟨by kernel_rfl,?_⟩) aq ?_;rotate_left
   focus (intro w' ao;have b1:=ao;(try dsimp only at b1);go_simp;(try with_reducible rfl))
   try simp only [put_lit2,List.set]
   refine wpAnyH_ready (rs:=[1,5]) (by kernel_rfl) (by simp) ?_;refine AllReadyH.cons rfl (fun K hK=> ?_) ?_
   ·
    refine Ik (by kernel_rfl) ?_;go_simp;go_wp2_with (go_at_call 47;(with_reducible refine (bj.out _ bk).mono ?_);rintro _ u1 ⟨y,rfl,af,ag,f1⟩);have a2:=aq.fr f1 zq;have a7:=OpL.frame bk f1;have al:=a8.trans f1 zr;refine hK.out _ _ a2 (fun _=> ?_);clear hK K;try simp only [put_lit2,List.set]
    refine wpAnyH_ready (rs:=[3,5]) (by kernel_rfl) (by simp) ?_;refine AllReadyH.cons rfl (fun K hK=> ?_) ?_
    ·
     refine Ik (by kernel_rfl) ?_;go_simp;go_wp2_with (go_at_call 62;(with_reducible refine (a1.out _ a7).mono ?_);rintro _ u2 ⟨rfl,f2⟩);have ak:=a2.fr f2 zq;have a3:=OpL.frame a7 f2;have a6:=al.trans f2 zr;refine hK.out _ _ ak (fun _=> ?_);clear hK K;try simp only [put_lit2,List.set]
     have bf:=fun w'=>bn.out y ui w';refine wpAnyH_take (i:=4) (v:=?_) rfl (by kernel_rfl) (by kernel_rfl) (by kernel_rfl) (fun _ _ _ h=>h) (Or.inl ⟨by kernel_rfl,?_⟩) ak ?_;rotate_left
     focus (intro w' ao;have b1:=ao;(try dsimp only at b1);go_simp;(try with_reducible rfl))
     try simp only [put_lit2,List.set]
     clear bf;refine Cm 5 (by kernel_rfl) rfl (by kernel_rfl) (fun K hK=> ?_);go_simp;have b4:=Blk.new u2 98 zN;have bl:Fr Non u2 (u2.alloc (.cells zN 98)):=(Fr.refl Non _).alloc _;have aj:=ak.fr bl zq;have bx:=OpL.frame a3 bl;have bg:=a6.trans bl zr;refine hK.out _ _ aj (fun _=> ?_);clear hK K;try simp only [put_lit2,List.set]
     have bz:=b4;have a0:w.heap.size≤u2.heap.size:=a6.size;have aw:w.heap.size≠u2.heap.size:=Ag8 ak.lt;have yo:=(ag.non f2).non bl;have ad:w.heap.size≤wd.heap.size:=a8.size;refine Cm 6 (by kernel_rfl) rfl (by kernel_rfl) (fun K hK=> ?_);have aa:=Ic (⟨y,⟨x.by_,x.sq,ui⟩,0,0,0,0,1⟩:Af);obtain ⟨NC,ae⟩:=Aa (⟨y,⟨x.by_,x.sq,ui⟩,0,0,0,0,1⟩:Af).cells.toArray;have ac:(Tryz.prog.info? 98).map (·.size)=some NC.size:=by rw [← ae.out];exact bo
     have ab:NC.size=35:=by rw [← ae.out];rfl
     rw [ae.out] at aa ⊢;refine Hg 98 (.tmp 6) (.tmp 32) (g:=u2.heap.size) (cs:=NC) rfl rfl (by rfl) (by rfl) bz ac ab.symm aa ?_;have ap:w.heap.size≠u2.heap.size:=aw;have ah:=aj.setRow_far (cs:=NC) ap;have av:=bz.setRow (cs:=NC);have ay:=bg.setRow (g:=u2.heap.size) (fun h=>absurd h (Nat.not_lt.2 a0)) NC;have az:=(yo.keepP ((Fr.refl (One (u2.heap.size)) (u2.alloc (.cells zN 98))).setRow (g:=u2.heap.size) (fun _=>rfl) NC) (Types.one bz) (by decide) (by decide) (by decide) (by decide) (by decide) (by decide) (by decide)).lower ad;have ar:w.heap.size<u2.heap.size:=by omega
     refine hK.out _ _ ah (fun hzz=> ?_);clear hK K hzz;refine oD ?_;go_simp;clear ap aa bz a0 aw ad yo ag ac ab;revert az ay av ah af ar;generalize (u2.alloc (.cells zN 98)).setRow (u2.heap.size) NC=wF;generalize u2.heap.size=gs;rw [← ae.out];clear ae NC;revert wF gs y;exact ba
    refine AllReadyH.cons rfl (fun K hK=> ?_) AllReadyH.nil
    ·
     refine Ik (by kernel_rfl) ?_;go_simp;have b6:=Blk.new u1 98 zN;have bm:Fr Non u1 (u1.alloc (.cells zN 98)):=(Fr.refl Non _).alloc _;have ak:=a2.fr bm zq;have a3:=OpL.frame a7 bm;have a6:=al.trans bm zr;refine hK.out _ _ ak (fun _=> ?_);clear hK K;try simp only [put_lit2,List.set]
     refine Cm 3 (by kernel_rfl) rfl (by kernel_rfl) (fun K hK=> ?_);go_simp;go_wp2_with (go_at_call 62;(with_reducible refine (a1.out _ a3).mono ?_);rintro _ u3 ⟨rfl,f3⟩);have aj:=ak.fr f3 zq;have bx:=OpL.frame a3 f3;have bg:=a6.trans f3 zr;refine hK.out _ _ aj (fun _=> ?_);clear hK K;try simp only [put_lit2,List.set]
     have bf:=fun w'=>bn.out y ui w';refine wpAnyH_take (i:=4) (v:=?_) rfl (by kernel_rfl) (by kernel_rfl) (by kernel_rfl) (fun _ _ _ h=>h) (Or.inl ⟨by kernel_rfl,?_⟩) aj ?_;rotate_left
     focus (intro w' ao;have b1:=ao;(try dsimp only at b1);go_simp;(try with_reducible rfl))
     try simp only [put_lit2,List.set]
     clear bf;have bz:=b6.fr f3 zq;have a0:w.heap.size≤u1.heap.size:=al.size;have aw:w.heap.size≠u1.heap.size:=Ag8 a2.lt;have yo:=(ag.non bm).non f3;have ad:w.heap.size≤wd.heap.size:=a8.size;refine Cm 6 (by kernel_rfl) rfl (by kernel_rfl) (fun K hK=> ?_);have aa:=Ic (⟨y,⟨x.by_,x.sq,ui⟩,0,0,0,0,1⟩:Af);obtain ⟨NC,ae⟩:=Aa (⟨y,⟨x.by_,x.sq,ui⟩,0,0,0,0,1⟩:Af).cells.toArray;have ac:(Tryz.prog.info? 98).map (·.size)=some NC.size:=by rw [← ae.out];exact bo
     have ab:NC.size=35:=by rw [← ae.out];rfl
     rw [ae.out] at aa ⊢;refine Hg 98 (.tmp 6) (.tmp 32) (g:=u1.heap.size) (cs:=NC) rfl rfl (by rfl) (by rfl) bz ac ab.symm aa ?_;have ap:w.heap.size≠u1.heap.size:=aw;have ah:=aj.setRow_far (cs:=NC) ap;have av:=bz.setRow (cs:=NC);have ay:=bg.setRow (g:=u1.heap.size) (fun h=>absurd h (Nat.not_lt.2 a0)) NC;have az:=(yo.keepP ((Fr.refl (One (u1.heap.size)) (u3)).setRow (g:=u1.heap.size) (fun _=>rfl) NC) (Types.one bz) (by decide) (by decide) (by decide) (by decide) (by decide) (by decide) (by decide)).lower ad;have ar:w.heap.size<u1.heap.size:=by omega
     refine hK.out _ _ ah (fun hzz=> ?_);clear hK K hzz;refine oD ?_;go_simp;clear ap aa bz a0 aw ad yo ag ac ab;revert az ay av ah af ar;generalize (u3).setRow (u1.heap.size) NC=wF;generalize u1.heap.size=gs;rw [← ae.out];clear ae NC;revert wF gs y;exact ba
   refine AllReadyH.cons rfl (fun K hK=> ?_) AllReadyH.nil
   ·
    refine Ik (by kernel_rfl) ?_;go_simp;have b3:=Blk.new wd 98 zN;have bp:Fr Non wd (wd.alloc (.cells zN 98)):=(Fr.refl Non _).alloc _;have a2:=aq.fr bp zq;have a7:=OpL.frame bk bp;have al:=a8.trans bp zr;refine hK.out _ _ a2 (fun _=> ?_);clear hK K;try simp only [put_lit2,List.set]
    refine Cm 1 (by kernel_rfl) rfl (by kernel_rfl) (fun K hK=> ?_);go_simp;go_wp2_with (go_at_call 47;(with_reducible refine (bj.out _ a7).mono ?_);rintro _ u2 ⟨y,rfl,af,ag,f2⟩);have ak:=a2.fr f2 zq;have a3:=OpL.frame a7 f2;have a6:=al.trans f2 zr;refine hK.out _ _ ak (fun _=> ?_);clear hK K;try simp only [put_lit2,List.set]
    refine Cm 3 (by kernel_rfl) rfl (by kernel_rfl) (fun K hK=> ?_);go_simp;go_wp2_with (go_at_call 62;(with_reducible refine (a1.out _ a3).mono ?_);rintro _ u3 ⟨rfl,f3⟩);have aj:=ak.fr f3 zq;have bx:=OpL.frame a3 f3;have bg:=a6.trans f3 zr;refine hK.out _ _ aj (fun _=> ?_);clear hK K;try simp only [put_lit2,List.set]
    have bf:=fun w'=>bn.out y ui w';refine wpAnyH_take (i:=4) (v:=?_) rfl (by kernel_rfl) (by kernel_rfl) (by kernel_rfl) (fun _ _ _ h=>h) (Or.inl ⟨by kernel_rfl,?_⟩) aj ?_;rotate_left
    focus (intro w' ao;have b1:=ao;(try dsimp only at b1);go_simp;(try with_reducible rfl))
    try simp only [put_lit2,List.set]
    clear bf;have bz:Blk u3 wd.heap.size 98 zN:=(b3.fr f2 zq).fr f3 zq;have a0:w.heap.size≤wd.heap.size:=Ag4 bv;have aw:w.heap.size≠wd.heap.size:=Ag8 aq.lt;have yo:=ag.non f3;have ad:w.heap.size≤(wd.alloc (.cells zN 98)).heap.size:=al.size;refine Cm 6 (by kernel_rfl) rfl (by kernel_rfl) (fun K hK=> ?_);have aa:=Ic (⟨y,⟨x.by_,x.sq,ui⟩,0,0,0,0,1⟩:Af);obtain ⟨NC,ae⟩:=Aa (⟨y,⟨x.by_,x.sq,ui⟩,0,0,0,0,1⟩:Af).cells.toArray;have ac:(Tryz.prog.info? 98).map (·.size)=some NC.size:=by rw [← ae.out];exact bo
    have ab:NC.size=35:=by rw [← ae.out];rfl
    rw [ae.out] at aa ⊢;refine Hg 98 (.tmp 6) (.tmp 32) (g:=wd.heap.size) (cs:=NC) rfl rfl (by rfl) (by rfl) bz ac ab.symm aa ?_;have ap:w.heap.size≠wd.heap.size:=aw;have ah:=aj.setRow_far (cs:=NC) ap;have av:=bz.setRow (cs:=NC);have ay:=bg.setRow (g:=wd.heap.size) (fun h=>absurd h (Nat.not_lt.2 a0)) NC;have az:=(yo.keepP ((Fr.refl (One (wd.heap.size)) (u3)).setRow (g:=wd.heap.size) (fun _=>rfl) NC) (Types.one bz) (by decide) (by decide) (by decide) (by decide) (by decide) (by decide) (by decide)).lower ad;have ar:w.heap.size<wd.heap.size:=by omega
    refine hK.out _ _ ah (fun hzz=> ?_);clear hK K hzz;refine oD ?_;go_simp;clear ap aa bz a0 aw ad yo ag ac ab;revert az ay av ah af ar;generalize (u3).setRow (wd.heap.size) NC=wF;generalize wd.heap.size=gs;rw [← ae.out];clear ae NC;revert wF gs y;exact ba
  case hp=>
   rename_i K hK;intro y wF gs af ah av ay az ar;refine hK _ _ ?_;clear hK K;have H:AddS0 w wF base g x y gs ui:=⟨hg,hat,be.out,bi.out,bh.out,by rw [a9.out];exact ah,av,ar,af,az,ay⟩;have b7:=a9.out;subst b7;clear hg hat hi bo au b2 bn a4 a5 bh ax bs bc bw br e0 e2 a9 b5 be bq bd bi bu aq a8 bk bv bj a1 al b0 bb af ah av ay az ar;clear w0 w1 wd;revert H;revert base g x w ui y wF gs;exact hP.down)
end Oq
namespace Oq
attribute [local go_sem ↓] Ce H9 Ia Ps
attribute [local go_sem] Af9 Ag0
def addB : PSigma (fun P : Prop => PLift P → addA.1) := PSigma.mk _ (by
  intro hP;conv => whnf
  intro base g x w ui y wF gs H;obtain ⟨hg, hat, hok, hEC0, hui0, baF, bsF, hgw, hyop, yoF, frF⟩ := H;have hi : (Tryz.prog.info? 67).map (·.size) = some 27 := by kernel_rfl
  have lpast : x.past.length ≤ 1000000 := by have h := hok.past.1; rw [show x.op.past = x.past from rfl] at h; omega
  have hlx := Cf (P := Tryz.prog) w.heap.size 67 Tryz.underlying67 rfl (cs := x.cells) hi;have kcd := Lib.hid (fun w' (h : Fr Non w w') => Nf base g x.by_ w' (hg.fr h) hg.cfew);have kvr := Lib.hid (fun (c : Cd) (hc : c.s < 18446744073709551616) w' (h : x.at w' w'.heap.size) => Oa c.d c.m c.l c.k c.s x w' h hok hc);have klk := Lib.hid (fun w' (h : Fr Non w w') => Ov base g x w' O0 (hg.fr h) (OpL.frame hat h) (fun id hid => hok.past.2 id hid) lpast);have hbad := Lib.hid (fun (err : Int) (w' : World) (h : An g.cards g.pns x.op = err) (h0 : err ≠ 0) (hf : Fr Non w w') => AddPost.bad (base := base) h h0 hf);have hu64 := Km x.op
  have hname : Hid (x.op.name = ⟨x.by_, x.sq, ui⟩) := by
    show _ = _;unfold Op.name;rw [hui0];rfl
  have hplc : Hid (plc g.pns x.op.name = Ae g.nodes ⟨x.by_, x.sq, ui⟩) := by
    show _ = _;rw [hname.out];exact Fb _ _
  rw [hui0] at hu64;have hidok : (Id.mk x.by_ x.sq ui).ok := ⟨hok.by_, hok.sq, hu64⟩;obtain ⟨CX, hCX⟩ := Aa x.cells;have e0 : Hid (CX[0]? = some (.int .i64 x.by_)) := by show _ = _; rw [← hCX.out]; rfl
  have e2 : Hid (CX[2]? = some (.int .i64 x.kind)) := by show _ = _; rw [← hCX.out]; rfl
  rw [hCX.out] at baF hlx kvr klk ⊢;have hok' := Lib.hid hok;have hEC := Lib.hid hEC0;have hui := Lib.hid hui0;have hyop' := Lib.hid hyop;unfold Gh at kcd;unfold Ac at kvr;clear hok hEC0 hui0 hyop;have yo0 := yoF;have n1 : wF.cell? ⟨gs, 27, none⟩ = some (.int .i64 x.by_) := bsF.cell 27;have n2 : wF.cell? ⟨gs, 28, none⟩ = some (.int .i64 x.sq) := bsF.cell 28;have n3 : wF.cell? ⟨gs, 29, none⟩ = some (.int .u64 (ui : Int)) := bsF.cell 29;have hgF := hg.fr frF;have c1 : wF.cell? ⟨g.gb, 1, none⟩ = some (.map (some g.mb)) := hgF.blk.cell 1;have hmap := hgF.map;have hlook : ∀ w', MapAt w' g.mb g.mm (Ae g.nodes) → (Instr.lookup 91 (.map (some g.mb)) (.agg #[.int .i64 x.by_, .int .i64 x.sq, .int .u64 (ui : Int)]) true).run Tryz.prog w' = .ok (.tuple #[.int .i64 (((Ae g.nodes ⟨x.by_, x.sq, ui⟩).getD 0 : Nat) : Int), .bool (Ae g.nodes ⟨x.by_, x.sq, ui⟩).isSome]) w' := fun w' h => MapAt.look h _ hidok;go_upto_region 5 with (fail)
  clear hgF
  cases hp : Ae g.nodes ⟨x.by_, x.sq, ui⟩
  case some i =>
    rw [hp] at hlook;have hfin := Lib.hid (fun w' h => hbad.out 5 w' (Xz hEC.out (by rw [hplc.out, hp]; rfl)) (by decide) h);clear hp hplc hbad hP kcd kvr klk
    as_aux_lemma =>
    refine wp_region_held_drew (S := (fun w' => w'.cell? ⟨gs, 27, none⟩ = some (.int .i64 x.by_) ∧ w'.cell? ⟨gs, 28, none⟩ = some (.int .i64 x.sq) ∧ w'.cell? ⟨gs, 29, none⟩ = some (.int .u64 (ui : Int)) ∧ w'.cell? ⟨g.gb, 1, none⟩ = some (.map (some g.mb)) ∧ MapAt w' g.mb g.mm (Ae g.nodes))) (by kernel_rfl) ⟨n1, n2, n3, c1, hmap⟩ (fun hHeld => ?_);clear hHeld;have hS : (fun w' => w'.cell? ⟨gs, 27, none⟩ = some (.int .i64 x.by_) ∧ w'.cell? ⟨gs, 28, none⟩ = some (.int .i64 x.sq) ∧ w'.cell? ⟨gs, 29, none⟩ = some (.int .u64 (ui : Int)) ∧ w'.cell? ⟨g.gb, 1, none⟩ = some (.map (some g.mb)) ∧ MapAt w' g.mb g.mm (Ae g.nodes)) wF.drew := ⟨n1, n2, n3, c1, hmap⟩;replace frF := frF.drew;refine tkH 0 hS (h:=?_);simp only [List.set];refine tkH 1 hS (h:=?_);simp only [List.set];refine tkH 2 hS (h:=?_);simp only [List.set];refine tkH 3 hS (h:=?_);simp only [List.set];refine tkH 4 hS (h:=?_);simp only [List.set];refine tkH 5 hS (h:=?_);simp only [List.set];refine tkH 6 hS (h:=?_);simp only [List.set];refine tkH 7 hS (h:=?_);simp only [List.set];refine tkH 8 hS (h:=?_);simp only [List.set];refine tkH 9 hS (h:=?_);simp only [List.set];refine tkH 10 hS (h:=?_);simp only [List.set];refine tkH 11 hS (h:=?_);simp only [List.set];refine wpAnyH_done (by kernel_rfl) ?_ _;go_simp;go_wp2_with (fail)
    go_ret
    exact hfin.out _ frF
  case none =>
    rw [hp] at hlook;have hnew : Hid (plc g.pns x.op.name = none) := by show _ = _; rw [hplc.out, hp]
    clear hp hplc;refine wp_region_held_drew (S := (fun w' => w'.cell? ⟨gs, 27, none⟩ = some (.int .i64 x.by_) ∧ w'.cell? ⟨gs, 28, none⟩ = some (.int .i64 x.sq) ∧ w'.cell? ⟨gs, 29, none⟩ = some (.int .u64 (ui : Int)) ∧ w'.cell? ⟨g.gb, 1, none⟩ = some (.map (some g.mb)) ∧ MapAt w' g.mb g.mm (Ae g.nodes))) (by kernel_rfl) ⟨n1, n2, n3, c1, hmap⟩ (fun hHeld => ?_);clear hHeld;have hS : (fun w' => w'.cell? ⟨gs, 27, none⟩ = some (.int .i64 x.by_) ∧ w'.cell? ⟨gs, 28, none⟩ = some (.int .i64 x.sq) ∧ w'.cell? ⟨gs, 29, none⟩ = some (.int .u64 (ui : Int)) ∧ w'.cell? ⟨g.gb, 1, none⟩ = some (.map (some g.mb)) ∧ MapAt w' g.mb g.mm (Ae g.nodes)) wF.drew := ⟨n1, n2, n3, c1, hmap⟩;replace frF := frF.drew;refine tkH 0 hS (h:=?_);simp only [List.set];refine tkH 1 hS (h:=?_);simp only [List.set];refine tkH 2 hS (h:=?_);simp only [List.set];refine tkH 3 hS (h:=?_);simp only [List.set];refine tkH 4 hS (h:=?_);simp only [List.set];refine tkH 5 hS (h:=?_);simp only [List.set];refine tkH 6 hS (h:=?_);simp only [List.set];refine tkH 7 hS (h:=?_);simp only [List.set];refine tkH 8 hS (h:=?_);simp only [List.set];refine tkH 9 hS (h:=?_);simp only [List.set];refine tkH 10 hS (h:=?_);simp only [List.set];refine tkH 11 hS (h:=?_);simp only [List.set];refine wpAnyH_done (by kernel_rfl) ?_ _;go_simp;clear hlook hS;replace baF : Blk wF.drew w.heap.size 67 CX := baF.drew;replace bsF := bsF.drew;replace yoF := yo0.non ((Fr.refl Non wF).drew);clear n1 n2 n3 c1 hmap yo0;generalize wF.drew = w2 at *;have hg2 := hg.fr frF;have c2 : w2.cell? ⟨g.gb, 2, none⟩ = some (.slice g.nA g.nodes.length g.nC) := hg2.blk.cell 2;have hlen : Hid (g.pns.length = g.nodes.length) := by show _ = _; unfold Gph.pns; rw [Ag1]
    obtain ⟨nn, hnn⟩ := Aa g.nodes.length;rw [hnn.out] at c2 hlen;clear hg2
    by_cases hfull : 200 ≤ nn
    case pos =>
      have hb : decide ((200 : Int) ≤ (nn : Int)) = true := by rw [decide_eq_true_iff]; omega
      have hfin := Lib.hid (hbad.out 3 w2 (Ya hEC.out hnew.out (by rw [hlen.out]; exact hfull)) (by decide) frF);clear hbad hP kcd kvr klk hfull
      as_aux_lemma =>
      go_wp2_with (fail)
      go_ret
      exact hfin.out
    case neg =>
      have hb : decide ((200 : Int) ≤ (nn : Int)) = false := by rw [decide_eq_false_iff_not]; omega
      have hrest := Lib.hid (Yc (cards := g.cards) hEC.out hnew.out (by rw [hlen.out]; omega));have hfew : Hid (nn < 200) := by show _ < _; omega
      clear hfull;have x0 : w2.cell? ⟨w.heap.size, 0, none⟩ = some (.int .i64 x.by_) := (baF.cell 0).trans e0.out;have kc1 := Lib.hid (kcd.out w2 frF);clear kcd;have hcard : Hid (Dn g.cards x.op.by_ = g.card x.by_) := rfl
      cases hcd : g.card x.by_
      case none =>
        rw [hcd] at kc1;have hfin := Lib.hid (fun w' h => hbad.out 17 w' (by rw [hrest.out, hcard.out, hcd]) (by decide) h);clear hrest hcard hcd hbad hP kvr klk
        as_aux_lemma =>
        have kc2 : Hid (Calls Tryz.prog 25 #[.pointer (some ⟨g.gb, 0, none⟩), .int .i64 x.by_] w2 fun e w' => e = .returned (.tuple #[.agg #[.int .i64 0, .int .i64 0, .int .u64 0, .int .u64 0, .int .u64 0], .bool false]) ∧ Fr Non w2 w') := kc1.out;clear kc1;go_upto_region 11 with (go_at_call 25; (with_reducible refine (kc2.out).mono ?_); rintro _ w3 ⟨rfl, f3⟩)
        have hfin2 := Lib.hid (fun w' h => hfin.out w' ((frF.trans f3 (fun _ _ e => e)).trans h (fun _ _ e => e)));go_wp2_with (fail)
        go_ret
        exact hfin2.out _ ((Fr.refl Non w3).alloc _)
      case some c =>
        have hcdf : g.cards.find? (fun c => c.d == x.by_) = some c := hcd;have hcm := List.mem_of_find?_eq_some hcdf;have hdd : (c.d == x.by_) = true := by have h := List.find?_some hcdf; exact h
        have hcd' : c.d = x.by_ := by simpa using hdd
        rw [hcd] at kc1;have hcs := hg.cok c hcm
        have hrest2 : Hid (An g.cards g.pns x.op = if Sg.check c.s x.op.bare x.op.r x.op.s = false then 12
              else if x.op.kind = 1 ∧ g.pns ≠ [] then 1
              else if x.op.past.any (fun id => (plc g.pns id).isNone) = true then 10
              else if clash g.pns x.op.past = true ∨ x.op.at_ < late g.pns x.op.past then 6
              else if Bu g.pns (Ad g.pns x.op.past) x.op = true then 11
              else 0) := by show _ = _; rw [hrest.out, hcard.out, hcd]
        have kv1 := Lib.hid (kvr.out c hcs);clear hrest hcard hcd kvr hcm hdd hcdf;rw [show (x.by_ == c.d) = true by rw [hcd']; simp, Bool.true_and] at kv1;have kc2 : Hid (Calls Tryz.prog 25 #[.pointer (some ⟨g.gb, 0, none⟩), .int .i64 x.by_] w2 fun e w' => e = .returned (.tuple #[.agg #[.int .i64 c.d, .int .i64 c.m, .int .u64 (c.l : Int), .int .u64 (c.k : Int), .int .u64 (c.s : Int)], .bool true]) ∧ Fr Non w2 w') := kc1.out;clear kc1 hcd' hcs;obtain ⟨sb, hsb⟩ := Aa (Sg.check c.s x.op.bare x.op.r x.op.s);rw [hsb.out] at hrest2;rw [show Sg.check c.s x.op.bare x.r x.s = sb from hsb.out] at kv1;clear hsb;go_upto_region 11 with (go_at_call 25; (with_reducible refine (kc2.out).mono ?_); rintro _ w3 ⟨rfl, f3⟩)
        have f4 : Fr Non w2 (w3.alloc (.cells #[.int .i64 c.d, .int .i64 c.m, .int .u64 (c.l : Int), .int .u64 (c.k : Int), .int .u64 (c.s : Int)] 71)) := f3.alloc _;have bcd := Blk.new w3 71 #[.int .i64 c.d, .int .i64 c.m, .int .u64 (c.l : Int), .int .u64 (c.k : Int), .int .u64 (c.s : Int)];have baG := baF.fr f4 (fun e => e);have bsG := bsF.fr f4 (fun e => e);have yoG := yoF.non f4;have frG := frF.trans f4 (fun _ _ e => e);obtain ⟨gc, hgc⟩ := Aa w3.heap.size;rw [hgc.out] at bcd ⊢;generalize w3.alloc (.cells #[.int .i64 c.d, .int .i64 c.m, .int .u64 (c.l : Int), .int .u64 (c.k : Int), .int .u64 (c.s : Int)] 71) = w4 at *;have m0 : w4.cell? ⟨gc, 0, none⟩ = some (.int .i64 c.d) := bcd.cell 0;have m1 : w4.cell? ⟨gc, 1, none⟩ = some (.int .i64 c.m) := bcd.cell 1;have m2 : w4.cell? ⟨gc, 2, none⟩ = some (.int .u64 (c.l : Int)) := bcd.cell 2;have m3 : w4.cell? ⟨gc, 3, none⟩ = some (.int .u64 (c.k : Int)) := bcd.cell 3;have m4 : w4.cell? ⟨gc, 4, none⟩ = some (.int .u64 (c.s : Int)) := bcd.cell 4;have kv2 := Lib.hid (kv1.out w4 (OpL.frame hat frG));clear kv1 bcd baF bsF yoF frF f3 f4 hgc x0 kc2
        cases sb
        case false =>
          have hfin := Lib.hid (fun w' h => hbad.out 12 w' (by rw [hrest2.out, if_pos rfl]) (by decide) h);clear hrest2 hbad hP klk
          as_aux_lemma =>
          go_wp2_with (go_at_call 26; (with_reducible refine (kv2.out).mono ?_); rintro _ w5 ⟨rfl, f5⟩)
          go_ret
          exact hfin.out _ (frG.trans f5 (fun _ _ e => e))
        case true =>
          have hrest3 : Hid (An g.cards g.pns x.op = if x.op.kind = 1 ∧ g.pns ≠ [] then 1
                else if x.op.past.any (fun id => (plc g.pns id).isNone) = true then 10
                else if clash g.pns x.op.past = true ∨ x.op.at_ < late g.pns x.op.past then 6
                else if Bu g.pns (Ad g.pns x.op.past) x.op = true then 11
                else 0) := by show _ = _; rw [hrest2.out, if_neg (by decide)]
          clear hrest2;go_upto_region 15 with (go_at_call 26; (with_reducible refine (kv2.out).mono ?_); rintro _ w5 ⟨rfl, f5⟩)
          have frH := frG.trans f5 (fun _ _ e => e);have baH := baG.fr f5 (fun e => e);have bsH := bsG.fr f5 (fun e => e);have yoH := yoG.non f5;clear kv2 baG bsG yoG frG f5 m0 m1 m2 m3 m4;have c2' : w5.cell? ⟨g.gb, 2, none⟩ = some (.slice g.nA nn g.nC) := by rw [← hnn.out]; exact (hg.fr frH).blk.cell 2
          have x2 : w5.cell? ⟨w.heap.size, 2, none⟩ = some (.int .i64 x.kind) := (baH.cell 2).trans e2.out;obtain ⟨kb, hkb⟩ := Aa (x.kind == 1 && decide ((0 : Int) < (nn : Int)));clear c2
          go_cut [6, 73] from 5 (fun n s wc => w5 = wc ∧ n = .pointer (some ⟨gs, 0, none⟩) ∧ s = .bool kb)
          case first =>
            clear hbad hP klk hrest3
            as_aux_lemma =>
            rcases Ah5 (x.kind == 1) with t1 | t1
            · have hv : Hid (decide ((0 : Int) < (nn : Int)) = kb) := by show _ = _; rw [← hkb.out, t1]; rfl
              go_wp2_with (fail);go_meet;exact ⟨rfl, rfl, congrArg Value.bool (by rw [← hv.out]; exact decide_eq_decide.2 (by omega))⟩
            · have hv : Hid (false = kb) := by show _ = _; rw [← hkb.out, t1]; rfl
              go_wp2_with (fail);go_meet;exact ⟨rfl, rfl, congrArg Value.bool hv.out⟩
          case rest =>
          obtain ⟨rfl, rfl, rfl⟩ := hcut
          cases kb
          case true =>
            have hfin := Lib.hid (fun w' h => hbad.out 1 w' (by
              have h1 := hkb.out;rw [Ah6, beq_iff_eq, decide_eq_true_iff] at h1;rw [hrest3.out, if_pos ⟨h1.1, fun e => by have h2 := hlen.out; rw [e] at h2; simp at h2; omega⟩]) (by decide) h)
            clear hrest3 hbad hP klk
            as_aux_lemma =>
            go_wp2_with (fail)
            go_ret
            exact hfin.out _ frH
          case false =>
            have hrest4 : Hid (An g.cards g.pns x.op = if x.op.past.any (fun id => (plc g.pns id).isNone) = true then 10
                else if clash g.pns x.op.past = true ∨ x.op.at_ < late g.pns x.op.past then 6
                else if Bu g.pns (Ad g.pns x.op.past) x.op = true then 11
                else 0) := by
              show _ = _;have h1 := hkb.out;rw [Bool.and_eq_false_iff, beq_eq_false_iff_ne, decide_eq_false_iff_not] at h1
              rw [hrest3.out, if_neg (fun e => by
                rcases h1 with h1 | h1
                · exact h1 e.1
                · refine e.2 (Ah7 ?_)
                  rw [hlen.out];omega)]
            clear hrest3;have kl := Lib.hid (klk.out w5 frH);clear klk;have hany := Lib.hid (Yd g x.past);unfold H8 at kl;obtain ⟨m, hm⟩ := Aa (x.past.filter (fun id => !(Ae g.nodes id).isSome)).length;rw [hm.out] at kl hany
            by_cases hm0 : m = 0
            case neg =>
              have hb0 : decide (0 < m) = true := by rw [decide_eq_true_iff]; omega
              have hfin := Lib.hid (fun w' h => hbad.out 10 w' (by
                rw [hrest4.out, if_pos (by
                  rcases Ah5 (x.op.past.any (fun id => (plc g.pns id).isNone)) with e | e
                  · exact e
                  · exact absurd (hany.out.2 e) hm0)]) (by decide) h)
              clear hrest4 hbad hP hm0
              as_aux_lemma =>
              go_wp2_with (go_at_call 63; (with_reducible refine (kl.out).mono ?_); rintro _ w6 ⟨A6, c6, rfl, r6, f6⟩)
              go_ret
              exact hfin.out _ (frH.trans f6 (fun _ _ e => e))
            case pos =>
              have hb0 : decide (0 < m) = false := by rw [decide_eq_false_iff_not]; omega
              have hall : Hid (x.op.past.any (fun id => (plc g.pns id).isNone) = false) := by
                exact hany.out.1 hm0
              have hrest5 : Hid (An g.cards g.pns x.op = if clash g.pns x.op.past = true ∨ x.op.at_ < late g.pns x.op.past then 6
                else if Bu g.pns (Ad g.pns x.op.past) x.op = true then 11
                else 0) := by
                show _ = _;rw [hrest4.out, if_neg (by rw [hall.out]; decide)]
              clear hrest4 hany hm0;go_upto_region 19 with (go_at_call 63; (with_reducible refine (kl.out).mono ?_); rintro _ w6 ⟨A6, c6, rfl, r6, f6⟩)
              rename_i K hK;have H : Kl w w6 base g x y gs := ⟨hg, hat, hok'.out, by rw [hCX.out]; exact baH.fr f6 (fun e => e), by rw [hname.out]; exact bsH.fr f6 (fun e => e), hgw, hyop'.out, yoH.non f6, frH.trans f6 (fun _ _ e => e), hEC.out, by rw [hnn.out]; exact hfew.out, hall.out, hnew.out, hrest5.out⟩;have hcx := hCX.out;subst hcx;try clear hg
              try clear hat
              try clear hi
              try clear hlx
              try clear hbad
              try clear hu64
              try clear hname
              try clear hplc
              try clear hidok
              try clear e0
              try clear e2
              try clear hCX
              try clear hok'
              try clear hEC
              try clear hui
              try clear hyop'
              try clear hall
              try clear hrest5
              try clear kl
              try clear hb
              try clear hb0
              try clear hfew
              try clear hlen
              try clear hnn
              try clear hnew
              try clear baH
              try clear bsH
              try clear yoH
              try clear frH
              try clear c2'
              try clear x2
              try clear r6
              try clear f6
              try clear hkb
              try clear hm
              try clear hrest4
              try clear hany
              try clear hm0
              try clear wF
              try clear w2
              try clear w3
              try clear w4
              try clear hnn
              try clear nn
              try clear ui
              try clear c
              try clear gc
              try clear hui
              try clear hbad
              try clear hP0
              revert H;revert hK;revert base g x w y gs K A6 c6 m w6;revert u5 u7 u8 u9 u10 u11 u12 u13 u14 u15 u16 u17 u18 u19 u20 u21 u22 u23 u24 u25 u26 u27 u28 u29 u30 u31 u32 u33 u34 u35 u36 u37 u38 u39 u40 u41 u42 u43 u44 u45 u46 u47 u48 u49 u50 u51 u52 u53 u54 u55 u56 u57 u58 u59 u60 u61 u62 u63 u64 u65 u66 u67 u68 u69 u70 u71 u72 u79 u80 u81 u82 u83 u84 u85 u86 u87 u88 u89 u90 u91 u92 u93 u94 u95 u96 u97 u98 u99 u100 u101 u102 u103 u104 u105 u106 u107 u108 u109 u110 u111 u112 u113 u114 u115 u116 u117 u118 u119 u120 u121 u122 u123 u124 u125 u126 u127 u128 u129 u130 u131 u132 u133 u134 u135 u136 u137 u138 u139 u140 u141 u142 u143 u144 u145 u146 u147 u148 u149 u150 u151 u152 u153 u154 u155 u156 u157 u158 u159 u160 u161 u162 u163 u164 u165 u166 u167 u168 u169 u170 u171 u172 u173 u174 u175 u176 u177 u178 u179 u180 u181 u182 u183 u184 u185 u186 u187 u188 u189 u190 u191 u192 u193 u194 u195 u196 u197 u198 u199 u200 u201 u202 u203 u204 u205 u206 u207 u208 u209 u210 u211 u212 u213 u214 u215 u216 u217 u218 u219 u220 u221 u222 u223 u224 u225 u226 u227 u228 u229 u230 u231 u232 u233;exact hP.down)
end Oq
end
section
open Go.RowKit Go.Sort
attribute [local go_sem ↓] Go.wp_at_zero Go.wp_at_succ
namespace Oq
theorem Picked.from {g:Gph} {p:Nat→Bool} {w0 w:World} {e:Ending} {w':World} (h:Picked g p w e w') (hf:Fr Non w0 w):Picked g p w0 e w':=by
 obtain ⟨A,c,ids,h1,h2,h3,h4,h5⟩:=h;exact ⟨A,c,ids,h1,h2,h3,h4.lower hf.size,hf.trans h5 zr⟩
end Oq
end
section
open Go.RowKit Go.Sort Go.Shelf
namespace Oq
instance:Inhabited Id:=⟨⟨0,0,0⟩⟩
theorem Pt (xs:List Id) {j:Nat} (hj:j<xs.length*3):(xs.flatMap Id.cells)[j]? =some ((flatK Id.cells 3 xs.toArray)[j]!):=by
 rw [get_flatK _ _ _ _ (by simpa using hj)];have hk:j/3<xs.length:=by omega
 have h1:xs[j/3]? =some xs[j/3]:=Af8 hk;have h2:=E5 (f:=Id.cells) (size:=3) (fun _=>rfl) xs (j/3) (j%3) _ h1 (by omega);rw [show j/3*3+j%3=j by omega] at h2;rw [h2];have h3:xs.toArray[j/3]! =xs[j/3]:=by simp [hk]
 rw [h3];have h4:j%3<(Id.cells xs[j/3]).length:=by show _<3;omega
 rw [Af8 h4];simp [h4]
theorem Pu {w:World} {base n c:Nat} {t:TypeId} {g:Nat} {l:List Value} {size:Nat} (h:Own w base t size (some ⟨g,0,none⟩) n c l) (hn:0<n):
  ∃cur,Blk w g t cur∧cur.toList.take (n*size)=l∧n*size≤cur.size:=by
 rcases h.2 with ⟨_,h0⟩|⟨g',cap,cur,hv,hb,hg,h1,h2,h3,h4⟩
 · omega
 ·
  injection hv with hA hn' hc
  injection hA with hA
  injection hA with hA
  subst hA;refine ⟨cur,hg,h4,?_⟩;have h5:=congrArg Ag5 h4;rw [Ag9,Ah0,h.1] at h5;omega
theorem Ye {w:World} {base c:Nat} {t:TypeId} {g:Nat} {xs:List Id} (h:Own w base t 3 (some ⟨g,0,none⟩) xs.length c (xs.flatMap Id.cells)):HoldsK Id.cells 3 w g 0 xs.toArray:=by
 intro j hj;have hj':j<xs.length*3:=by simpa using hj
 obtain ⟨cur,hb,hl,hs⟩:=Pu h (by omega);have hf:=Pt xs hj';rw [Ag2];refine ⟨?_,hb.frozen j⟩;rw [hb.cell j,id,← hf,← hl,Ah1 hj'];simp
theorem Pv {w:World} {t:TypeId} {g n:Nat} {cur:Array Value} {d:Array Value} {os:Array Obj} (h:Blk w g t cur):
  Blk (grow (putRow id (Sort.ahead w n) g 0 d) os) g t (putCells id 0 d cur):=by
 have hlt:=h.lt;unfold Blk at*;unfold grow putRow mapBlock Sort.ahead;simp only;rw [Ah8 (by simpa using hlt),Ah9,if_pos rfl,h];rfl
theorem Kn (w:World) (g n:Nat) (d:Array Value) (os:Array Obj):Fr (One g) w (grow (putRow id (Sort.ahead w n) g 0 d) os):=by
 refine ⟨rfl,rfl,rfl,?_,?_⟩
 · simp [grow,putRow,mapBlock,Sort.ahead]
 ·
  intro k hk hne;unfold grow putRow mapBlock Sort.ahead;simp only;rw [Ah8 (by simpa using hk),Ah9,if_neg (fun e=>hne e.symm)]
theorem Pw {d cur:Array Value} {l:List Value} (hd:d.size=l.length) (hl:∀j,j<l.length→l[j]? =some d[j]!) (hs:l.length≤cur.size):(putCells id 0 d cur).toList.take l.length=l:=by
 apply List.ext_getElem?;intro j
 by_cases hj:j<l.length
 ·
  rw [Ah1 hj,hl j hj];have hc:j<cur.size:=by omega
  have hjd:j<d.size:=by omega
  simp [putCells,hc,hjd]
 · rw [List.getElem?_take_eq_none (by omega),List.getElem?_eq_none (by omega)]
theorem Yf {w:World} {base c:Nat} {t:TypeId} {g:Nat} {xs ys:List Id} (n:Nat) (os:Array Obj) (h:Own w base t 3 (some ⟨g,0,none⟩) xs.length c (xs.flatMap Id.cells)) (hx:0<xs.length) (hl:ys.length=xs.length):
  Own (sortWorldK Id.cells 3 w g 0 n ys.toArray os) base t 3 (some ⟨g,0,none⟩) ys.length c (ys.flatMap Id.cells):=by
 have hyl:(ys.flatMap Id.cells).length=ys.length*3:=E6 (f:=Id.cells) (fun _=>rfl) ys
 rcases h.2 with ⟨_,h0⟩|⟨g',cap,cur,hv,hb,hg,h1,h2,h3,h4⟩
 · omega
 ·
  injection hv with hA hn' hc
  injection hA with hA
  injection hA with hA
  subst hA;subst hc
  have hs:xs.length*3≤cur.size:=by
   have h5:=congrArg Ag5 h4;rw [Ag9,Ah0,h.1] at h5;omega
  have hnew:=Pv (n:=n) (os:=os) (d:=flatK Id.cells 3 ys.toArray) (show Blk w g t cur from hg);refine ⟨hyl,.inr ⟨g,c,putCells id 0 (flatK Id.cells 3 ys.toArray) cur,rfl,hb,hnew,by omega,h2,?_,?_⟩⟩
  · simpa [putCells] using h3
  ·
   rw [← hyl];exact Pw (by rw [hyl];simp) (fun j hj=>Pt ys (by omega)) (by omega)
end Oq
end
section
open Go.RowKit Go.Sort Go.Shelf
namespace Oq
theorem Il (x y:Id):ltOf Er x y=Id.less x y:=by
 unfold ltOf Er
 cases Id.less x y<;>cases Id.less y x<;>rfl
theorem Yg:SWO (ltOf Er) where
 irrefl x:=by rw [Il];exact Id.less_irr x
 trans x y z h1 h2:=by
  rw [Il] at*;exact Id.less_tr h1 h2
 ntrans x y z h1 h2:=by
  rw [Il] at*
  rcases Id.less_f h1 with rfl|h1
  · exact h2
  ·
   rcases Id.less_f h2 with rfl|h2
   · exact Id.less_as h1
   · exact Id.less_as (Id.less_tr h2 h1)
end Oq
end
end Go.Proofs.YtkanjaikgphjfaaGreatDoor
namespace Go.Proofs
open Go.Shelf Go.RowKit Go.Lib Go.Sort
def Tryz.sortIdents_ren:Go.Shelf.Ren:=⟨fun|6=>69|15=>67|14=>121|28=>119|29=>120|20=>173|21=>174|22=>175|23=>176|24=>177|25=>178|26=>179|27=>180|46=>203|47=>169|48=>170|49=>204|50=>205|57=>214|n=>n,fun|22=>25|24=>41|25=>125|3=>3|39=>123|0=>0|53=>178|55=>39|4=>4|46=>172|45=>171|50=>86|5=>5|9=>9|66=>219|70=>222|76=>239|77=>240|n=>n,fun|n=>n⟩
theorem Tryz.sortIdents:Go.Proofs.SlLaysF0.n6 Tryz.prog Tryz.sortIdents_ren:={
  mixed:=by kernel_rfl
  f6:=⟨Tryz.f69.name,by decide,Tryz.func69.trans (congrArg some (by kernel_rfl))⟩
  f14:=⟨Tryz.f121.name,by decide,Tryz.func121.trans (congrArg some (by kernel_rfl))⟩
  f15:=Tryz.func67.trans (congrArg some (by kernel_rfl))
  f20:=⟨Tryz.f173.name,by decide,Tryz.func173.trans (congrArg some (by kernel_rfl))⟩
  f21:=⟨Tryz.f174.name,by decide,Tryz.func174.trans (congrArg some (by kernel_rfl))⟩
  f22:=⟨Tryz.f175.name,by decide,Tryz.func175.trans (congrArg some (by kernel_rfl))⟩
  f23:=⟨Tryz.f176.name,by decide,Tryz.func176.trans (congrArg some (by kernel_rfl))⟩
  f24:=⟨Tryz.f177.name,by decide,Tryz.func177.trans (congrArg some (by kernel_rfl))⟩
  f25:=⟨Tryz.f178.name,by decide,Tryz.func178.trans (congrArg some (by kernel_rfl))⟩
  f26:=⟨Tryz.f179.name,by decide,Tryz.func179.trans (congrArg some (by kernel_rfl))⟩
  f27:=⟨Tryz.f180.name,by decide,Tryz.func180.trans (congrArg some (by kernel_rfl))⟩
  f28:=Tryz.func119.trans (congrArg some (by kernel_rfl))
  f29:=Tryz.func120.trans (congrArg some (by kernel_rfl))
  f46:=⟨Tryz.f203.name,by decide,Tryz.func203.trans (congrArg some (by kernel_rfl))⟩
  f47:=Tryz.func169.trans (congrArg some (by kernel_rfl))
  f48:=Tryz.func170.trans (congrArg some (by kernel_rfl))
  f49:=⟨Tryz.f204.name,by decide,Tryz.func204.trans (congrArg some (by kernel_rfl))⟩
  f50:=⟨Tryz.f205.name,by decide,Tryz.func205.trans (congrArg some (by kernel_rfl))⟩
  f57:=⟨Tryz.f214.name,by decide,Tryz.func214.trans (congrArg some (by kernel_rfl))⟩
  t0:=Tryz.underlying0
  a0:=Tryz.isAgg0
  z0:=Tryz.sizeOf0
  v0:=Tryz.zeroValue0
  t3:=Tryz.underlying3
  a3:=Tryz.isAgg3
  z3:=Tryz.sizeOf3
  v3:=Tryz.zeroValue3
  t4:=Tryz.underlying4
  a4:=Tryz.isAgg4
  z4:=Tryz.sizeOf4
  v4:=Tryz.zeroValue4
  t5:=Tryz.underlying5
  a5:=Tryz.isAgg5
  z5:=Tryz.sizeOf5
  v5:=Tryz.zeroValue5
  t9:=Tryz.underlying9
  a9:=Tryz.isAgg9
  z9:=Tryz.sizeOf9
  v9:=Tryz.zeroValue9
  t22:=Tryz.underlying25
  a22:=Tryz.isAgg25
  z22:=Tryz.sizeOf25
  v22:=Tryz.zeroValue25
  t25:=Tryz.underlying125
  a25:=Tryz.isAgg125
  z25:=Tryz.sizeOf125
  v25:=Tryz.zeroValue125
  t39:=Tryz.underlying123
  a39:=Tryz.isAgg123
  z39:=Tryz.sizeOf123
  v39:=Tryz.zeroValue123
  t45:=Tryz.underlying171
  a45:=Tryz.isAgg171
  z45:=Tryz.sizeOf171
  v45:=Tryz.zeroValue171
  t46:=Tryz.underlying172
  a46:=Tryz.isAgg172
  z46:=Tryz.sizeOf172
  v46:=Tryz.zeroValue172
  t50:=Tryz.underlying86
  a50:=Tryz.isAgg86
  z50:=Tryz.sizeOf86
  v50:=Tryz.zeroValue86
  t53:=Tryz.underlying178
  a53:=Tryz.isAgg178
  z53:=Tryz.sizeOf178
  v53:=Tryz.zeroValue178
  t55:=Tryz.underlying39
  a55:=Tryz.isAgg39
  z55:=Tryz.sizeOf39
  v55:=Tryz.zeroValue39
  t66:=Tryz.underlying219
  a66:=Tryz.isAgg219
  z66:=Tryz.sizeOf219
  v66:=Tryz.zeroValue219
  t70:=Tryz.underlying222
  a70:=Tryz.isAgg222
  z70:=Tryz.sizeOf222
  v70:=Tryz.zeroValue222
  t76:=Tryz.underlying239
  a76:=Tryz.isAgg239
  z76:=Tryz.sizeOf239
  v76:=Tryz.zeroValue239
  t77:=Tryz.underlying240
  a77:=Tryz.isAgg240
  z77:=Tryz.sizeOf240
  v77:=Tryz.zeroValue240}
end Go.Proofs
namespace Go.Proofs.YtkanjaikgphjfaaGreatDoor
section
open Go.RowKit Go.Sort Go.Shelf
namespace Oq
end Oq
end
section
open Go.RowKit Go.Sort
attribute [local go_sem ↓] Go.wp_at_zero Go.wp_at_succ
namespace Oq
attribute [local go_sem] Af9 Ag0
theorem Yh {w:World} {g:Nat} {t:TypeId} {ws:List Nat} (h:Blk w g t (ws.map Uv).toArray) (hl:ws.length=4):Es w g 0 ws:=fun j hj=>by
 rw [h.cell,Ag2,List.getElem?_toArray,Ag6,Af8 (by omega)];simp [Uv,List.getD,Af8 (show j<ws.length by omega)]
theorem Yi {w:World} {g k i v:Nat} {t:TypeId} {ws:List Nat} (h:Blk w g t (ws.map Uv).toArray):Blk ((w.drewN k).setCell ⟨g,i,none⟩ (.int .u64 (v:Int))) g t ((ws.set i v).map Uv).toArray:=by
 have h1:=(h.drewN k).set i (.int .u64 (v:Int));rw [List.map_set];have e:(ws.map Uv).toArray.setIfInBounds i (.int .u64 (v:Int))=((ws.map Uv).set i (Uv v)).toArray:=by simp [Uv]
 rw [← e];exact h1
end Oq
end
section
open Go.RowKit
attribute [local go_sem ↓] Go.wp_at_zero Go.wp_at_succ
namespace Oq
attribute [local go_sem] Af9 Ag0
structure LSt (w wr:World) (x y:OpL) (gs pb:Nat) (PW:List Nat) (a0 a1 a2 a3 lv:Nat):Prop where
 bx:Blk wr w.heap.size 67 x.cells
 bn:Blk wr gs 98 (⟨y,x.op.name,0,0,0,0,lv⟩:Af).cells.toArray
 bp:Blk wr pb 96 (PW.map Uv).toArray
 ba:Blk wr (pb+1) 96 #[.int .u64 (a0:Int),.int .u64 (a1:Int),.int .u64 (a2:Int),.int .u64 (a3:Int)]
 yown:y.own wr w.heap.size
 fr:Fr Non w wr
 lo1:w.heap.size<gs
 lo2:gs<pb
section
variable {w wr w' : World} {x y : OpL} {gs pb : Nat} {PW : List Nat} {a0 a1 a2 a3 lv : Nat}
theorem LSt.non (L:LSt w wr x y gs pb PW a0 a1 a2 a3 lv) (hf:Fr Non wr w'):LSt w w' x y gs pb PW a0 a1 a2 a3 lv:=
 ⟨L.bx.fr hf zq,L.bn.fr hf zq,L.bp.fr hf zq,L.ba.fr hf zq,L.yown.non hf,L.fr.trans hf zr,L.lo1,L.lo2⟩
theorem LSt.par (L:LSt w wr x y gs pb PW a0 a1 a2 a3 lv) {PW':List Nat} (hf:Fr (One pb) wr w') (hb:Blk w' pb 96 (PW'.map Uv).toArray):LSt w w' x y gs pb PW' a0 a1 a2 a3 lv:=by
 have h1:=L.lo1;have h2:=L.lo2;exact ⟨L.bx.fr hf (by unfold One;omega),L.bn.fr hf (by unfold One;omega),hb,L.ba.fr hf (by unfold One;omega),L.yown.keepP hf (Types.one L.bp) (by decide) (by decide) (by decide) (by decide) (by decide) (by decide) (by decide),L.fr.trans hf (fun k hk e=>by have e':k=pb:=e;omega),h1,h2⟩
theorem LSt.abv (L:LSt w wr x y gs pb PW a0 a1 a2 a3 lv) {b0 b1 b2 b3:Nat} (hf:Fr (One (pb+1)) wr w') (hb:Blk w' (pb+1) 96 #[.int .u64 (b0:Int),.int .u64 (b1:Int),.int .u64 (b2:Int),.int .u64 (b3:Int)]):LSt w w' x y gs pb PW b0 b1 b2 b3 lv:=by
 have h1:=L.lo1;have h2:=L.lo2;exact ⟨L.bx.fr hf (by unfold One;omega),L.bn.fr hf (by unfold One;omega),L.bp.fr hf (by unfold One;omega),hb,L.yown.keepP hf (Types.one L.ba) (by decide) (by decide) (by decide) (by decide) (by decide) (by decide) (by decide),L.fr.trans hf (fun k hk e=>by have e':k=pb+1:=e;omega),h1,h2⟩
theorem LSt.lev (L:LSt w wr x y gs pb PW a0 a1 a2 a3 lv) (lv':Nat):LSt w (wr.setCell ⟨gs,34,none⟩ (.int .i64 (lv':Int))) x y gs pb PW a0 a1 a2 a3 lv':=by
 have h1:=L.lo1;have h2:=L.lo2;have hf:=(Fr.refl (One gs) wr).setOne 34 (.int .i64 (lv':Int));exact ⟨L.bx.fr hf (by unfold One;omega),L.bn.set 34 _,L.bp.fr hf (by unfold One;omega),L.ba.fr hf (by unfold One;omega),L.yown.keepP hf (Types.one L.bn) (by decide) (by decide) (by decide) (by decide) (by decide) (by decide) (by decide),L.fr.trans hf (fun k hk e=>by have e':k=gs:=e;omega),h1,h2⟩
end
structure CSt (w wr:World) (base:Nat) (g:Gph) (x y:OpL) (gs pb:Nat) (PW:List Nat) (a0 a1 a2 a3 lv:Nat) (lt:Int) (wa:World):Prop where
 A:Kl w wa base g x y gs
 L:LSt w wr x y gs pb PW a0 a1 a2 a3 lv
 par:Ao PW (Cc g.pns x.op.past)
 abv:Ao [a0,a1,a2,a3] (Bn g.pns x.op.past)
 hlt:lt=late g.pns x.op.past
 hlv:lv=lvl g.pns x.op.past
def addC:PSigma (fun P:Prop=>PLift P→addB.1):=PSigma.mk _ (by
 intro hP;conv=>whnf
 intro t5 t7 t8 t9 t10 t11 t12 t13 t14 t15 t16 t17 t18 t19 t20 t21 t22 t23 t24 t25 t26 t27 t28 t29 t30 t31 t32 t33 t34 t35 t36 t37 t38 t39 t40 t41 t42 t43 t44 t45 t46 t47 t48 t49 t50 t51 t52 t53 t54 t55 t56 t57 t58 t59 t60 t61 t62 t63 t64 t65 t66 t67 t68 t69 t70 t71 t72 t79 t80 t81 t82 t83 t84 t85 t86 t87 t88 t89 t90 t91 t92 t93 t94 t95 t96 t97 t98 t99 t100 t101 t102 t103 t104 t105 t106 t107 t108 t109 t110 t111 t112 t113 t114 t115 t116 t117 t118 t119 t120 t121 t122 t123 t124 t125 t126 t127 t128 t129 t130 t131 t132 t133 t134 t135 t136 t137 t138 t139 t140 t141 t142 t143 t144 t145 t146 t147 t148 t149 t150 t151 t152 t153 t154 t155 t156 t157 t158 t159 t160 t161 t162 t163 t164 t165 t166 t167 t168 t169 t170 t171 t172 t173 t174 t175 t176 t177 t178 t179 t180 t181 t182 t183 t184 t185 t186 t187 t188 t189 t190 t191 t192 t193 t194 t195 t196 t197 t198 t199 t200 t201 t202 t203 t204 t205 t206 t207 t208 t209 t210 t211 t212 t213 t214 t215 t216 t217 t218 t219 t220 t221 t222 t223 t224 t225 t226 t227 t228 t229 t230 t231 t232 t233 base g x w y gs hgw lpast m w6 A6 c6 K hK H;have hg:=H.hg;have hok:=H.hok;have hat:=H.hat;have hlen:=hg.few;have hall:=Lib.hid H.all;have hH:=Lib.hid H;have hpo:x.op.past=x.past:=rfl;obtain ⟨n,hn⟩:=Aa x.past.length;have hnm:n≤1000:=by have h:=hok.past.1;rw [show x.op.past=x.past from rfl,hn.out] at h;exact h
 have L0:LSt w ((w6.alloc (.cells #[.int .u64 0,.int .u64 0,.int .u64 0,.int .u64 0] 96)).alloc (.cells #[.int .u64 0,.int .u64 0,.int .u64 0,.int .u64 0] 96)) x y gs w6.heap.size [0,0,0,0] 0 0 0 0 1:=by
  have f1:Fr Non w6 ((w6.alloc (.cells #[.int .u64 0,.int .u64 0,.int .u64 0,.int .u64 0] 96)).alloc (.cells #[.int .u64 0,.int .u64 0,.int .u64 0,.int .u64 0] 96)):=((Fr.refl Non w6).alloc _).alloc _;have b2:=Blk.new (w6.alloc (.cells #[.int .u64 0,.int .u64 0,.int .u64 0,.int .u64 0] 96)) 96 #[.int .u64 0,.int .u64 0,.int .u64 0,.int .u64 0];rw [Ah2] at b2;exact ⟨H.bx.fr f1 zq,H.bn.fr f1 zq,(Blk.new w6 96 #[.int .u64 0,.int .u64 0,.int .u64 0,.int .u64 0]).alloc _,b2,H.yown.non f1,H.fr.trans f1 zr,hgw,H.bn.lt⟩
 obtain ⟨CX,a6⟩:=Aa x.cells;have e4:Hid (CX[4]? =some (.slice x.pastA n x.pastC)):=by show _=_;rw [← a6.out,← hn.out];rfl
 have x4:((w6.alloc (.cells #[.int .u64 0,.int .u64 0,.int .u64 0,.int .u64 0] 96)).alloc (.cells #[.int .u64 0,.int .u64 0,.int .u64 0,.int .u64 0] 96)).cell? ⟨w.heap.size,4,none⟩=some (.slice x.pastA n x.pastC):=by
  have h:=L0.bx.cell 4;rw [a6.out,e4.out] at h;exact h
 rw [a6.out];clear hpo H;go_upto_region 20 with (fail)
 generalize (w6.alloc (.cells #[.int .u64 0,.int .u64 0,.int .u64 0,.int .u64 0] 96)).alloc (.cells #[.int .u64 0,.int .u64 0,.int .u64 0,.int .u64 0] 96)=w7 at*;obtain ⟨pb,bt⟩:=Aa w6.heap.size;rw [bt.out] at L0 ⊢;go_wp2_with (fail)
 go_loopw [13,82] (fun tv v wr=>∃(k:Nat) (PW:List Nat) (a0 a1 a2 a3 lv:Nat) (lt:Int),tv=.int .i64 lt∧v=.int .i64 (k:Int)∧k≤n∧Hid (Ao PW (Cc g.pns (x.past.take k)))∧Hid (Ao [a0,a1,a2,a3] (Bn g.pns (x.past.take k)))∧Hid (lt=late g.pns (x.past.take k))∧Hid (lv=lvl g.pns (x.past.take k))∧Hid (LSt w wr x y gs pb PW a0 a1 a2 a3 lv)) (fun _ v _=>n-(intOf v).toNat)
 case atStart=>exact ⟨0,[0,0,0,0],0,0,0,0,1,0,rfl,rfl,by omega,Ao.empty,Ao.empty,rfl,rfl,L0⟩
 case round=>
  obtain ⟨k,PW,a0,a1,a2,a3,lv,lt,rfl,rfl,hk,ak,ap,a4,a9,hL⟩:=hrel
  by_cases hkn:k<n
  ·
   clear hP L0 x4
   as_aux_lemma=>
   have L:=hL.out;have i1:(0:Int)≤k:=by omega
   have i2:(k:Int)<n:=by omega
   have i3:(k:Int).toNat=k:=by omega
   obtain ⟨id,hid⟩:∃z,x.past[k]? =some z:=⟨_,Af8 (by rw [hn.out];exact hkn)⟩;have av:id.ok:=hok.past.2 id (Ag7 hid)
   obtain ⟨i,aq⟩:∃i,plc g.pns id=some i:=by
    have h1:=hall.out;rw [Ah4] at h1;have h2:=h1 id (Ag7 hid)
    cases h3:plc g.pns id with
    |none=>rw [h3] at h2;exact absurd rfl h2
    |some i=>exact ⟨i,rfl⟩
   have ao:Ae g.nodes id=some i:=by rw [← aq];exact (Fb g.nodes id).symm
   obtain ⟨nd,ar,_⟩:=Jo ao;have b9:i<g.nodes.length:=(List.getElem?_eq_some_iff.1 ar).1;have ai:i<256:=by omega
   have bb:g.pns[i]? =some nd.pn:=by unfold Gph.pns;rw [Ag6,ar];rfl
   have af:Hid (Ao [nd.a0,nd.a1,nd.a2,nd.a3] nd.past):=(hg.node nd (Ag7 ar)).set;have bo:=hg.levs nd (Ag7 ar)
   have ag:Hid (Cc g.pns (x.past.take (k+1))=fun q=>q==i||Cc g.pns (x.past.take k) q):=by
    show _=_;rw [U4 g.pns x.past k hid,aq];funext q;congr 1
    by_cases h:q=i
    · subst h;simp
    ·
     have h':¬i=q:=fun e=>h e.symm;simp only [beq_eq_false_iff_ne.2 h];exact beq_eq_false_iff_ne.2 (fun e=>h' (Option.some.inj e))
   have ah:Hid (Bn g.pns (x.past.take (k+1))=fun q=>Bn g.pns (x.past.take k) q||nd.past q):=by
    show _=_;rw [U5 g.pns x.past k hid];funext q;unfold upB;rw [aq];simp only [bb];rfl
   have ax:Hid (late g.pns (x.past.take (k+1))=max (late g.pns (x.past.take k)) nd.x.at_):=by
    show _=_;rw [Oe g.pns x.past k hid];unfold Bo;rw [aq];simp only [bb];rfl
   have az:Hid (lvl g.pns (x.past.take (k+1))=max (lvl g.pns (x.past.take k)) (nd.lev+1)):=by
    show _=_;rw [U6 g.pns x.past k hid];unfold Az;rw [aq];simp only [bb];rfl
   obtain ⟨b,ca,hA,b4,d0,d1,d2⟩:=Id.at (hat.past.1.fr L.fr zr) hid;obtain ⟨bn,aa,be,b5,aj⟩:=hg.cell ar
   have aw:∀w',MapAt w' g.mb g.mm (Ae g.nodes)→(Instr.lookup 91 (.map (some g.mb)) (.agg id.V) false).run Tryz.prog w'=.ok (.int .i64 (i:Int)) w':=fun w' h=>by
    have h1:=MapAt.look1 h id av;rw [ao] at h1;exact h1
   have ab:Hid (∀wv,Fr Non w wv→wv.cell? ⟨g.gb,1,none⟩=some (.map (some g.mb))∧wv.cell? ⟨g.gb,2,none⟩=some (.slice (some ⟨bn,aa,none⟩) g.nodes.length g.nC)∧MapAt wv g.mb g.mm (Ae g.nodes)∧
     wv.cell? ⟨bn,aa+i*35+3,none⟩=some (.int .i64 nd.x.at_)∧wv.cell? ⟨bn,aa+i*35+34,none⟩=some (.int .i64 (nd.lev:Int))∧
     wv.cell? ⟨bn,aa+i*35+30,none⟩=some (.int .u64 (nd.a0:Int))∧wv.cell? ⟨bn,aa+i*35+30+1,none⟩=some (.int .u64 (nd.a1:Int))∧wv.cell? ⟨bn,aa+i*35+30+2,none⟩=some (.int .u64 (nd.a2:Int))∧wv.cell? ⟨bn,aa+i*35+30+3,none⟩=some (.int .u64 (nd.a3:Int))):=by
    intro wv hf;have bg:=hg.fr hf;have hc:∀j,j<35→∀u,nd.cells[j]? =some u→wv.cell? ⟨bn,aa+i*35+j,none⟩=some u:=fun j hj u hu=>hf.cell (aj j hj u hu) zq;refine ⟨bg.blk.cell 1,?_,bg.map,hc 3 (by omega) _ rfl,hc 34 (by omega) _ rfl,hc 30 (by omega) _ rfl,hc 31 (by omega) _ rfl,hc 32 (by omega) _ rfl,hc 33 (by omega) _ rfl⟩;rw [← be];exact bg.blk.cell 2
   have b1:g.gb<w.heap.size:=hg.blk.lt;have b6:g.mb<w.heap.size:=hg.map.lt;have L1:=L.non ((Fr.refl Non wr).alloc (.cells id.V 41));have a5:=Blk.new wr 41 id.V;have bh:pb<wr.heap.size:=L.bp.lt;rw [hA];replace hA:=Lib.hid hA;replace be:=Lib.hid be;have j1:(0:Int)≤i:=by omega
   have j2:(i:Int)<g.nodes.length:=by omega
   have j3:(i:Int).toNat=i:=by omega
   have j4:IntKind.i64.wrap (i:Int)=i:=IntWalk.i64_in _ (by omega);clear hid aq ao ar bb aj hall L b4 hg hat hok b9;go_upto_region 24 with (fail)
   obtain ⟨ib,b7⟩:=Aa wr.heap.size;rw [b7.out] at a5 bh ⊢;generalize wr.alloc (.cells id.V 41)=w1 at*;have i4:w1.cell? ⟨ib,0,none⟩=some (.int .i64 id.b):=a5.cell 0;have i5:w1.cell? ⟨ib,1,none⟩=some (.int .i64 id.s):=a5.cell 1;have i6:w1.cell? ⟨ib,2,none⟩=some (.int .u64 (id.u:Int)):=a5.cell 2;obtain ⟨c1,c2,ac,-⟩:=ab.out w1 L1.fr;generalize g.nodes.length=nn at*;refine wp_region_held_drew (S:=(fun w'=>w'.cell? ⟨ib,0,none⟩=some (.int .i64 id.b)∧w'.cell? ⟨ib,1,none⟩=some (.int .i64 id.s)∧w'.cell? ⟨ib,2,none⟩=some (.int .u64 (id.u:Int))∧w'.cell? ⟨g.gb,1,none⟩=some (.map (some g.mb))∧w'.cell? ⟨g.gb,2,none⟩=some (.slice (some ⟨bn,aa,none⟩) nn g.nC)∧MapAt w' g.mb g.mm (Ae g.nodes))) (by kernel_rfl) ⟨i4,i5,i6,c1,c2,ac⟩ (fun hHeld=> ?_);clear hHeld;have hS:(fun w'=>w'.cell? ⟨ib,0,none⟩=some (.int .i64 id.b)∧w'.cell? ⟨ib,1,none⟩=some (.int .i64 id.s)∧w'.cell? ⟨ib,2,none⟩=some (.int .u64 (id.u:Int))∧w'.cell? ⟨g.gb,1,none⟩=some (.map (some g.mb))∧w'.cell? ⟨g.gb,2,none⟩=some (.slice (some ⟨bn,aa,none⟩) nn g.nC)∧MapAt w' g.mb g.mm (Ae g.nodes)) w1.drew:=⟨i4,i5,i6,c1,c2,ac⟩;refine tkH 0 hS (h:=tkH 1 hS (h:=tkH 2 hS (h:=tkH 3 hS (h:=tkH 4 hS (h:=tkH 5 hS (h:=tkH 6 hS (h:=tkH 7 hS (h:=tkH 8 hS (h:=tkH 9 hS (h:=tkH 10 hS (h:=tkH 11 hS (h:=?_))))))))))));simp only [List.set];refine oD ?_;go_simp;clear hS c2;have L2:=L1.non ((Fr.refl Non w1).drew);replace i4:w1.drew.cell? ⟨ib,0,none⟩=some (.int .i64 id.b):=i4;replace i5:w1.drew.cell? ⟨ib,1,none⟩=some (.int .i64 id.s):=i5;replace i6:w1.drew.cell? ⟨ib,2,none⟩=some (.int .u64 (id.u:Int)):=i6;replace c1:w1.drew.cell? ⟨g.gb,1,none⟩=some (.map (some g.mb)):=c1;replace ac:MapAt w1.drew g.mb g.mm (Ae g.nodes):=ac;clear L1 a5;go_upto_region 25 with (fail)
   generalize w1.drew=w2 at*;refine wp_region_held_drew (S:=(fun w'=>w'.cell? ⟨ib,0,none⟩=some (.int .i64 id.b)∧w'.cell? ⟨ib,1,none⟩=some (.int .i64 id.s)∧w'.cell? ⟨ib,2,none⟩=some (.int .u64 (id.u:Int))∧w'.cell? ⟨g.gb,1,none⟩=some (.map (some g.mb))∧MapAt w' g.mb g.mm (Ae g.nodes))) (by kernel_rfl) ⟨i4,i5,i6,c1,ac⟩ (fun hHeld=> ?_);clear hHeld;have hS:(fun w'=>w'.cell? ⟨ib,0,none⟩=some (.int .i64 id.b)∧w'.cell? ⟨ib,1,none⟩=some (.int .i64 id.s)∧w'.cell? ⟨ib,2,none⟩=some (.int .u64 (id.u:Int))∧w'.cell? ⟨g.gb,1,none⟩=some (.map (some g.mb))∧MapAt w' g.mb g.mm (Ae g.nodes)) w2.drew:=⟨i4,i5,i6,c1,ac⟩;refine tkH 0 hS (h:=tkH 1 hS (h:=tkH 2 hS (h:=tkH 3 hS (h:=tkH 4 hS (h:=tkH 5 hS (h:=?_))))));simp only [List.set];have L3:=L2.non ((Fr.refl Non w2).drew);have ad:w2.drew.cell? ⟨ib,0,none⟩=some (.int .i64 id.b)∧w2.drew.cell? ⟨ib,1,none⟩=some (.int .i64 id.s)∧w2.drew.cell? ⟨ib,2,none⟩=some (.int .u64 (id.u:Int)):=⟨i4,i5,i6⟩;clear L2 hS i4 i5 i6 c1 ac;obtain ⟨w3,bm⟩:=Aa w2.drew;rw [bm.out] at L3 ad ⊢;have ae:=Yh L3.bp ak.out.len;have br:∀j,j<4→w3.frozen? ⟨pb,0+j,none⟩=false:=fun j _=>L3.bp.frozen _;have kp:=Lib.hid (S9 pb 0 PW (Cc g.pns (x.past.take k)) i w3 ak.out ae br ai)
   have bw:Hid (∀qq,LSt w ((w3.drewN qq).setCell ⟨pb,0+i/64,none⟩ (.int .u64 ((PW.getD (i/64) 0|||2^(i%64):Nat):Int))) x y gs pb (PW.set (i/64) (PW.getD (i/64) 0|||2^(i%64))) a0 a1 a2 a3 lv∧Fr (One pb) w3 ((w3.drewN qq).setCell ⟨pb,0+i/64,none⟩ (.int .u64 ((PW.getD (i/64) 0|||2^(i%64):Nat):Int)))):=by
    intro qq;have hf:Fr (One pb) w3 ((w3.drewN qq).setCell ⟨pb,0+i/64,none⟩ (.int .u64 ((PW.getD (i/64) 0|||2^(i%64):Nat):Int))):=((Fr.refl (One pb) w3).drewN qq).setCell (p:=⟨pb,0+i/64,none⟩) (fun _=>rfl) _;exact ⟨L3.par hf (by rw [Ag2];exact Yi L3.bp),hf⟩
   have a7:Hid (Ao (PW.set (i/64) (PW.getD (i/64) 0|||2^(i%64))) (Cc g.pns (x.past.take (k+1)))):=by
    show Ao _ _;rw [ag.out];exact Ao.put ak.out ai
   generalize PW.set (i/64) (PW.getD (i/64) 0|||2^(i%64))=PW2 at*;generalize PW.getD (i/64) 0|||2^(i%64)=nv at*;clear ae br L3 ak ag hL;refine oG 6 (fun K hK=> ?_);go_simp;go_wp2_with (go_at_call 64;(with_reducible refine (kp.out).mono ?_);rintro _ w4 ⟨rfl,qq,bu⟩;have bj:=bw.out qq;rw [← bu] at bj;clear bu bw);obtain ⟨L4,bc⟩:=bj;refine hK.out _ _ ⟨bc.cell ad.1 (by show ¬ib=pb;omega),bc.cell ad.2.1 (by show ¬ib=pb;omega),bc.cell ad.2.2 (by show ¬ib=pb;omega),(ab.out w4 L4.fr).1,(ab.out w4 L4.fr).2.2.1⟩ (fun hZ=> ?_);clear hZ hK K kp bc ad bm w3;try simp only [Ag,List.set]
   refine oD ?_;go_simp;clear aw;obtain ⟨-,-,-,-,-,m0,m1,m2,m3⟩:=ab.out w4 L4.fr
   have ae:Es w4 (pb+1) 0 [a0,a1,a2,a3]:=fun j hj=>by
    rw [L4.ba.cell]
    match j,hj with
    |0,_=>rfl
    |1,_=>rfl
    |2,_=>rfl
    |3,_=>rfl
   have kw:=Lib.hid (My (pb+1) 0 96 #[.int .u64 (a0:Int),.int .u64 (a1:Int),.int .u64 (a2:Int),.int .u64 (a3:Int)] [a0,a1,a2,a3] nd.a0 nd.a1 nd.a2 nd.a3 (Bn g.pns (x.past.take k)) nd.past w4 ap.out af.out L4.ba ae)
   have a8:Hid (Ao [a0|||nd.a0,a1|||nd.a1,a2|||nd.a2,a3|||nd.a3] (Bn g.pns (x.past.take (k+1)))):=by
    show Ao _ _;rw [ah.out];exact Ao.or ap.out af.out
   have bs:Hid (∀w5,Blk w5 (pb+1) 96 (Hj #[.int .u64 (a0:Int),.int .u64 (a1:Int),.int .u64 (a2:Int),.int .u64 (a3:Int)] 0 (orW [a0,a1,a2,a3] [nd.a0,nd.a1,nd.a2,nd.a3]))→Fr (One (pb+1)) w4 w5→LSt w w5 x y gs pb PW2 (a0|||nd.a0) (a1|||nd.a1) (a2|||nd.a2) (a3|||nd.a3) lv):=fun w5 hb hf=>L4.abv hf hb;clear ae ap af L4 ah;go_upto_region 27 with (go_at_call 65;go_loud (with_reducible refine (kw.out).mono ?_);rintro _ w5 ⟨rfl,bl,bz⟩;have L5:=bs.out w5 bl bz;clear bl bz bs kw m0 m1 m2 m3)
   obtain ⟨-,-,-,q3,bk,-,-,-,-⟩:=ab.out w5 L5.fr;obtain ⟨bv,au⟩:=Aa (max lt nd.x.at_)
   have bf:Hid (bv=late g.pns (x.past.take (k+1))):=by
    show _=_;rw [ax.out,← au.out,← a4.out]
   clear ax a4;go_upto_region 28 with (fail)
   clear q3;have s1:w5.cell? ⟨gs,34,none⟩=some (.int .i64 (lv:Int)):=L5.bn.cell 34;have ay:IntKind.i64.wrap ((nd.lev:Int)+1)=(nd.lev:Int)+1:=IntWalk.i64_in _ (by omega);obtain ⟨bd,al⟩:=Aa (max lv (nd.lev+1))
   have bi:Hid (bd=lvl g.pns (x.past.take (k+1))):=by
    show _=_;rw [az.out,← al.out,← a9.out]
   have bq:Hid (max (lv:Int) ((nd.lev:Int)+1)=(bd:Int)):=by
    show _=_;rw [← al.out];omega
   clear az a9 al;refine Cw (S:=(fun w'=>w'.cell? ⟨gs,34,none⟩=some (.int .i64 (lv:Int))∧w'.cell? ⟨bn,aa+i*35+34,none⟩=some (.int .i64 (nd.lev:Int)))) 9 (by kernel_rfl) ?_;have hS:(fun w'=>w'.cell? ⟨gs,34,none⟩=some (.int .i64 (lv:Int))∧w'.cell? ⟨bn,aa+i*35+34,none⟩=some (.int .i64 (nd.lev:Int))) w5.drew:=⟨s1,bk⟩;have L6:=L5.non ((Fr.refl Non w5).drew);obtain ⟨w6,b3⟩:=Aa w5.drew;rw [b3.out] at hS L6 ⊢;refine tkG 0 hS (h:=tkG 1 hS (h:=tkG 2 hS (h:=tkG 3 hS (h:=tkG 4 hS (h:=tkG 5 hS (h:=tkG 6 hS (h:=tkG 7 hS (h:=tkG 8 hS (h:=?_)))))))));simp only [List.set];have b0:w6.frozen? ⟨gs,34,none⟩=false:=L6.bn.frozen 34;replace s1:w6.cell? ⟨gs,34,none⟩=some (.int .i64 (lv:Int)):=hS.1;clear hS L5 bk;refine Cr (by kernel_rfl) ?_;refine oG 9 (fun K hK=> ?_);go_simp;refine hK.out _ _ trivial (fun hZ=> ?_);clear hZ hK K;try simp only [put_lit2,List.set]
   refine oD ?_;go_simp;have L7:=L6.lev bd;rw [← bq.out] at L7;clear L6 b0 s1 ay bq;go_wp2_with (fail);go_roundw
   case rel=>exact ⟨k+1,PW2,a0|||nd.a0,a1|||nd.a1,a2|||nd.a2,a3|||nd.a3,bd,bv,congrArg _ au.out,by go_num,by omega,a7,a8,bf,bi,L7⟩
   case measure=>simp [intOf];omega
  ·
   obtain rfl:n=k:=by omega
   have ht:x.past.take n=x.op.past:=List.take_of_length_le (by rw [hn.out];exact Nat.le_refl _);rw [ht] at ak ap a4 a9;have C:CSt w wr base g x y gs pb PW a0 a1 a2 a3 lv lt w6:=⟨hH.out,hL.out,ak.out,ap.out,a4.out,a9.out⟩;clear ak ap a4 a9 hL hH hall L0 x4 e4 hlen hat hok hg ht hk hkn bt hn hnm hgw lpast;have b8:=a6.out;subst b8;clear a6;go_upto_region 30 with (fail)
   rename_i QQ KB hKB K2 hK2;clear hKB KB QQ;revert C;revert hK2;revert base g x w y gs w6 w7 wr pb PW a0 a1 a2 a3 lv lt n A6 c6 m K2;revert t5 t7 t8 t9 t10 t14 t17 t18 t19 t20 t21 t22 t23 t24 t25 t26 t27 t28 t29 t30 t31 t32 t33 t34 t35 t36 t37 t38 t39 t40 t41 t42 t43 t44 t45 t46 t47 t48 t49 t50 t51 t52 t53 t54 t55 t56 t57 t58 t59 t60 t61 t62 t63 t64 t65 t66 t67 t68 t69 t70 t71 t72 t126 t127 t128 t129 t130 t131 t132 t133 t134 t135 t136 t137 t138 t139 t140 t141 t142 t143 t144 t145 t146 t147 t148 t149 t150 t151 t152 t153 t154 t155 t156 t157 t158 t159 t160 t161 t162 t163 t164 t165 t166 t167 t168 t169 t170 t171 t172 t173 t174 t175 t176 t177 t178 t179 t180 t181 t182 t183 t184 t185 t186 t187 t188 t189 t190 t191 t192 t193 t194 t195 t196 t197 t198 t199 t200 t201 t202 t203 t204 t205 t206 t207 t208 t209 t210 t211 t212 t213 t214 t215 t216 t217 t218 t219 t220 t221 t222 t223 t224 t225 t226 t227 t228 t229 t230 t231 t232 t233 u15 u16 u84 u85 u86 u87 u88 u89 u90 u91 u92 u93 u94 u95 u96 u97 u98 u99 u100 u101 u102 u103 u104 u105 u106 u107 u108 u109 u110 u111 u112 u113 u114 u115 u116 u117 u118 u119 u120 u121 u122 u123 u124 u125;exact hP.down)
theorem Yj (a0 a1 a2 a3 b0 b1 b2 b3:Int) (w:World):(Op.equalIn 10000 96 (.agg #[.int .u64 a0,.int .u64 a1,.int .u64 a2,.int .u64 a3]) (.agg #[.int .u64 b0,.int .u64 b1,.int .u64 b2,.int .u64 b3])).run Tryz.prog w=.ok (a0==b0&&a1==b1&&a2==b2&&a3==b3) w:=by
 obtain ⟨ht,hinfo,_⟩:=Mb;obtain ⟨i,hi,_⟩:=info_parts hinfo;rw [show (10000:Nat)=9999+1 from rfl,run_equalIn_array w 9999 _ _ Tryz.underlying96 hi,Mp,show List.range 4=[0,1,2,3] from rfl];simp only [Op.eqItems];go_simp
 by_cases h1:a0=b0<;>by_cases h2:a1=b1<;>by_cases h3:a2=b2<;>by_cases h4:a3=b3<;>simp [h1,h2,h3,h4]
theorem Yk:Tryz.prog.eqGuardType Tryz.prog.depth 96=false:=by kernel_rfl
theorem Im (b:Nat):((b:Int)==0)=(b==0):=by
 rw [Bool.eq_iff_iff,beq_iff_eq,beq_iff_eq];omega
structure DSt (w wr:World) (base:Nat) (g:Gph) (x y:OpL) (gs:Nat) (n0 n1 n2 n3 lv:Nat) (wa:World):Prop where
 A:Kl w wa base g x y gs
 bx:Blk wr w.heap.size 67 x.cells
 bn:Blk wr gs 98 (⟨y,x.op.name,n0,n1,n2,n3,lv⟩:Af).cells.toArray
 yown:y.own wr w.heap.size
 fr:Fr Non w wr
 lo1:w.heap.size<gs
 set:Ao [n0,n1,n2,n3] (fun q=>Bn g.pns x.op.past q||Cc g.pns x.op.past q)
 hlv:lv=lvl g.pns x.op.past
 err:An g.cards g.pns x.op=if Bu g.pns (Ad g.pns x.op.past) x.op=true then 11 else 0
def addD:PSigma (fun P:Prop=>PLift P→addC.1):=PSigma.mk _ (by
 intro hP;conv=>whnf
 intro s5 s7 s8 s9 s10 s14 s17 s18 s19 s20 s21 s22 s23 s24 s25 s26 s27 s28 s29 s30 s31 s32 s33 s34 s35 s36 s37 s38 s39 s40 s41 s42 s43 s44 s45 s46 s47 s48 s49 s50 s51 s52 s53 s54 s55 s56 s57 s58 s59 s60 s61 s62 s63 s64 s65 s66 s67 s68 s69 s70 s71 s72 s126 s127 s128 s129 s130 s131 s132 s133 s134 s135 s136 s137 s138 s139 s140 s141 s142 s143 s144 s145 s146 s147 s148 s149 s150 s151 s152 s153 s154 s155 s156 s157 s158 s159 s160 s161 s162 s163 s164 s165 s166 s167 s168 s169 s170 s171 s172 s173 s174 s175 s176 s177 s178 s179 s180 s181 s182 s183 s184 s185 s186 s187 s188 s189 s190 s191 s192 s193 s194 s195 s196 s197 s198 s199 s200 s201 s202 s203 s204 s205 s206 s207 s208 s209 s210 s211 s212 s213 s214 s215 s216 s217 s218 s219 s220 s221 s222 s223 s224 s225 s226 s227 s228 s229 s230 s231 s232 s233 s15 s16 s84 s85 s86 s87 s88 s89 s90 s91 s92 s93 s94 s95 s96 s97 s98 s99 s100 s101 s102 s103 s104 s105 s106 s107 s108 s109 s110 s111 s112 s113 s114 s115 s116 s117 s118 s119 s120 s121 s122 s123 s124 s125 base g x w y gs m w6 A6 c6 n w7 pb wv PW a0 a1 a2 a3 lv lt K hK C;have L:=C.L
 obtain ⟨p0,p1,p2,p3,rfl⟩:∃p0 p1 p2 p3,PW=[p0,p1,p2,p3]:=by
  match PW,C.par.len with
  |[p0,p1,p2,p3],_=>exact ⟨p0,p1,p2,p3,rfl⟩
 have ac:Hid (Ao [p0&&&a0,p1&&&a1,p2&&&a2,p3&&&a3] (fun k=>Cc g.pns x.op.past k&&Bn g.pns x.op.past k)):=Ao.and C.par C.abv;have al:Hid (Ao [a0|||p0,a1|||p1,a2|||p2,a3|||p3] (fun k=>Bn g.pns x.op.past k||Cc g.pns x.op.past k)):=Ao.or C.abv C.par;have be:=C.par.u64;have bc:=C.abv.u64;have hC:=Lib.hid C;have hlt:=Lib.hid C.hlt;have r0:wv.cell? ⟨pb,0,none⟩=some (.int .u64 (p0:Int)):=L.bp.cell 0;have r1:wv.cell? ⟨pb,1,none⟩=some (.int .u64 (p1:Int)):=L.bp.cell 1;have r2:wv.cell? ⟨pb,2,none⟩=some (.int .u64 (p2:Int)):=L.bp.cell 2;have r3:wv.cell? ⟨pb,3,none⟩=some (.int .u64 (p3:Int)):=L.bp.cell 3;have L1:=L.non ((Fr.refl Non wv).alloc (.cells #[.int .u64 (p0:Int),.int .u64 (p1:Int),.int .u64 (p2:Int),.int .u64 (p3:Int)] 96));have ae:=Blk.new wv 96 #[.int .u64 (p0:Int),.int .u64 (p1:Int),.int .u64 (p2:Int),.int .u64 (p3:Int)];have bj:pb+1<wv.heap.size:=L.ba.lt;have a9:gs<wv.heap.size:=L.bn.lt;obtain ⟨CX,aj⟩:=Aa x.cells;have e3:Hid (CX[3]? =some (.int .i64 x.at_)):=by show _=_;rw [← aj.out];rfl
 rw [aj.out];obtain ⟨vf,au⟩:∃vf:Nat→Value,vf=fun k=> .int .u64 (((Ji [p0,p1,p2,p3] [a0,a1,a2,a3]).getD k 0:Nat):Int):=⟨_,rfl⟩
 have ar:Hid (Dc #[.int .u64 (p0:Int),.int .u64 (p1:Int),.int .u64 (p2:Int),.int .u64 (p3:Int)] 0 vf 4=#[.int .u64 ((p0&&&a0:Nat):Int),.int .u64 ((p1&&&a1:Nat):Int),.int .u64 ((p2&&&a2:Nat):Int),.int .u64 ((p3&&&a3:Nat):Int)]):=by
  show _=_;rw [au];rfl
 have aq:Hid (∀k,k<4→vf k=.int .u64 (bits .and .u64 (([p0,p1,p2,p3].getD k 0:Nat):Int) (([a0,a1,a2,a3].getD k 0:Nat):Int))):=fun k hk=>by
  rw [au,u64_and_nat _ _ (be k) (bc k),← Jk _ _ k hk]
 have bf:Hid (∀k,k<4→(#[.int .u64 (p0:Int),.int .u64 (p1:Int),.int .u64 (p2:Int),.int .u64 (p3:Int)]:Array Value)[k]? =some (.int .u64 (([p0,p1,p2,p3].getD k 0:Nat):Int))):=fun k hk=>by
  match k,hk with
  |0,_=>rfl
  |1,_=>rfl
  |2,_=>rfl
  |3,_=>rfl
 clear au be bc C L;go_upto_region 31 with (fail)
 obtain ⟨bb,a5⟩:=Aa wv.heap.size;rw [a5.out] at ae bj a9 ⊢;generalize wv.alloc (.cells #[.int .u64 (p0:Int),.int .u64 (p1:Int),.int .u64 (p2:Int),.int .u64 (p3:Int)] 96)=w1 at*
 have bi:Hid (∀k,k<4→w1.cell? ⟨pb+1,k,none⟩=some (.int .u64 (([a0,a1,a2,a3].getD k 0:Nat):Int))):=fun k hk=>by
  rw [L1.ba.cell]
  match k,hk with
  |0,_=>rfl
  |1,_=>rfl
  |2,_=>rfl
  |3,_=>rfl
 clear r0 r1 r2 r3;go_wp2_with (fail)
 go_loopw [127] (fun v wr=>∃i:Nat,v=.int .i64 (i:Int)∧i≤4∧Blk wr bb 96 (Dc #[.int .u64 (p0:Int),.int .u64 (p1:Int),.int .u64 (p2:Int),.int .u64 (p3:Int)] 0 vf i)∧Fr (One bb) w1 wr) (fun v _=>4-(intOf v).toNat)
 case atStart=>exact ⟨0,rfl,by omega,ae,Fr.refl _ _⟩
 case round=>
  obtain ⟨i,rfl,bm,ab,hf⟩:=hrel
  by_cases hi:i<4
  ·
   clear hP L1 ae hC hlt ac al e3 ar
   as_aux_lemma=>
   have i1:(0:Int)≤i:=by omega
   have i2:(i:Int)<4:=by omega
   have i3:(i:Int).toNat=i:=by omega
   have i4:IntKind.i64.wrap (i:Int)=i:=IntWalk.i64_in _ (by omega);have c1:wr.cell? ⟨bb,i,none⟩=some (.int .u64 (([p0,p1,p2,p3].getD i 0:Nat):Int)):=by rw [ab.cell,Mx _ _ _ _ _ (by omega)];exact bf.out i hi
   have c2:wr.cell? ⟨pb+1,i,none⟩=some (.int .u64 (([a0,a1,a2,a3].getD i 0:Nat):Int)):=hf.cell (bi.out i hi) (by show ¬pb+1=bb;omega);have z1:=ab.frozen i;have bq:=Lib.hid (aq.out i hi);generalize [p0,p1,p2,p3].getD i 0=pi at*;generalize [a0,a1,a2,a3].getD i 0=ai at*;go_upto_region 34 with (fail)
   refine Cw (S:=(fun w'=>w'.cell? ⟨bb,i,none⟩=some (.int .u64 (pi:Int))∧w'.cell? ⟨pb+1,i,none⟩=some (.int .u64 (ai:Int)))) 8 (by kernel_rfl) ?_;have hS:(fun w'=>w'.cell? ⟨bb,i,none⟩=some (.int .u64 (pi:Int))∧w'.cell? ⟨pb+1,i,none⟩=some (.int .u64 (ai:Int))) wr.drew:=⟨c1,c2⟩;replace c1:wr.drew.cell? ⟨bb,i,none⟩=some (.int .u64 (pi:Int)):=c1;replace z1:wr.drew.frozen? ⟨bb,i,none⟩=false:=z1;replace ab:Blk wr.drew bb 96 (Dc #[.int .u64 (p0:Int),.int .u64 (p1:Int),.int .u64 (p2:Int),.int .u64 (p3:Int)] 0 vf i):=ab;replace hf:=hf.drew;generalize wr.drew=w2 at*;refine tkG 0 hS (h:=tkG 1 hS (h:=tkG 2 hS (h:=tkG 3 hS (h:=tkG 4 hS (h:=tkG 5 hS (h:=tkG 6 hS (h:=tkG 7 hS (h:=?_))))))));simp only [List.set];refine Cr (by kernel_rfl) ?_;refine oG 8 (fun K hK=> ?_);go_simp;refine hK.out _ _ trivial (fun hZ=> ?_);clear hZ hK K;try simp only [put_lit2,List.set]
   refine oD ?_;go_simp
   have ah:Blk (w2.setCell ⟨bb,i,none⟩ (vf i)) bb 96 (Dc #[.int .u64 (p0:Int),.int .u64 (p1:Int),.int .u64 (p2:Int),.int .u64 (p3:Int)] 0 vf (i+1)):=by
    have h1:=ab.set (0+i) (vf i);rw [Ag2] at h1;show Blk _ _ _ ((Dc #[.int .u64 (p0:Int),.int .u64 (p1:Int),.int .u64 (p2:Int),.int .u64 (p3:Int)] 0 vf i).setIfInBounds (0+i) (vf i));rw [Ag2];exact h1
   have a7:=hf.setOne i (vf i);rw [bq.out] at ah a7;clear ab hf hS c1 c2 z1 aq;go_wp2_with (fail);go_roundw
   case rel=>exact ⟨i+1,by go_num,by omega,ah,a7⟩
   case measure=>simp [intOf];omega
  ·
   obtain rfl:i=4:=by omega
   rw [ar.out] at ab
   have L2:LSt w wr x y gs pb [p0,p1,p2,p3] a0 a1 a2 a3 lv:=by
    have h1:=L1.lo1;have h2:=L1.lo2;have hw:w.heap.size<bb:=by omega
    exact ⟨L1.bx.fr hf (by unfold One;omega),L1.bn.fr hf (by unfold One;omega),L1.bp.fr hf (by unfold One;omega),L1.ba.fr hf (by unfold One;omega),L1.yown.keepP hf (Types.one ae) (by decide) (by decide) (by decide) (by decide) (by decide) (by decide) (by decide),L1.fr.trans hf (fun k hk e=>by have e':k=bb:=e;omega),h1,h2⟩
   have hz:=Va ac.out;obtain ⟨b0,av⟩:=Aa (p0&&&a0);obtain ⟨b1,bd⟩:=Aa (p1&&&a1);obtain ⟨b2,ah⟩:=Aa (p2&&&a2);obtain ⟨b3,aw⟩:=Aa (p3&&&a3);rw [av.out,bd.out,ah.out,aw.out] at ab hz;obtain ⟨cl,ad⟩:=Aa (clash g.pns x.op.past)
   have bl:∀w',(Op.equalIn 10000 96 (.agg #[.int .u64 (b0:Int),.int .u64 (b1:Int),.int .u64 (b2:Int),.int .u64 (b3:Int)]) (.agg #[.int .u64 0,.int .u64 0,.int .u64 0,.int .u64 0])).run Tryz.prog w'=.ok (!cl) w':=fun w'=>by
    rw [Yj,Im,Im,Im,Im,hz,← ad.out];rfl
   have hm:=Yk;have k0:wr.cell? ⟨bb,0,none⟩=some (.int .u64 (b0:Int)):=ab.cell 0;have k1:wr.cell? ⟨bb,1,none⟩=some (.int .u64 (b1:Int)):=ab.cell 1;have k2:wr.cell? ⟨bb,2,none⟩=some (.int .u64 (b2:Int)):=ab.cell 2;have k3:wr.cell? ⟨bb,3,none⟩=some (.int .u64 (b3:Int)):=ab.cell 3
   have x3:wr.cell? ⟨w.heap.size,3,none⟩=some (.int .i64 x.at_):=by
    have h:=L2.bx.cell 3;rw [aj.out,e3.out] at h;exact h
   clear hz av bd ah aw ab hf L1 ae bi aq bf ar hi bm ac;go_upto_region 36 with (fail)
   obtain ⟨bad,aa⟩:=Aa (cl||decide (x.at_<lt))
   go_cut [147] from 139 to 147 (fun s wc=>wr=wc∧s=.bool bad)
   case first=>
    clear hP L2 hC hlt al e3
    as_aux_lemma=>
    cases cl
    ·
     have hv:Hid (decide (x.at_<lt)=bad):=by show _=_;rw [← aa.out];rfl
     go_wp2_with (fail);go_meet;exact ⟨rfl,congrArg Value.bool hv.out⟩
    ·
     have hv:Hid (true=bad):=by show _=_;rw [← aa.out];rfl
     go_wp2_with (fail);go_meet;exact ⟨rfl,congrArg Value.bool hv.out⟩
   case rest=>
   obtain ⟨rfl,rfl⟩:=hcut;clear k0 k1 k2 k3 x3 bl hm
   cases bad
   case true=>
    have bk:=Lib.hid (AddPost.bad (base:=base) (w':=wr) (by
     rw [hC.out.A.err,if_pos (by
      have h1:=aa.out;rw [Bool.or_eq_true,decide_eq_true_iff] at h1;rw [ad.out,← hlt.out];exact h1)]) (by decide) L2.fr)
    clear hP hC hlt L2 al aa ad
    as_aux_lemma=>
    go_wp2_with (fail)
    go_ret
    exact bk.out
   case false=>
    have ao:Hid (An g.cards g.pns x.op=if Bu g.pns (Ad g.pns x.op.past) x.op=true then 11 else 0):=by
     show _=_
     rw [hC.out.A.err,if_neg (by
      have h1:=aa.out;rw [Bool.or_eq_false_iff,decide_eq_false_iff_not] at h1;rw [ad.out,← hlt.out,h1.1];intro h2
      rcases h2 with h2|h2
      · cases h2
      · exact h1.2 h2)]
    clear aa ad hlt;have m0:wr.cell? ⟨pb+1,0,none⟩=some (.int .u64 (a0:Int)):=L2.ba.cell 0;have m1:wr.cell? ⟨pb+1,1,none⟩=some (.int .u64 (a1:Int)):=L2.ba.cell 1;have m2:wr.cell? ⟨pb+1,2,none⟩=some (.int .u64 (a2:Int)):=L2.ba.cell 2;have m3:wr.cell? ⟨pb+1,3,none⟩=some (.int .u64 (a3:Int)):=L2.ba.cell 3;have y0:wr.cell? ⟨gs,30,none⟩=some (.int .u64 0):=L2.bn.cell 30;have y1:wr.cell? ⟨gs,31,none⟩=some (.int .u64 0):=L2.bn.cell 31;have y2:wr.cell? ⟨gs,32,none⟩=some (.int .u64 0):=L2.bn.cell 32;have y3:wr.cell? ⟨gs,33,none⟩=some (.int .u64 0):=L2.bn.cell 33;have z0:wr.frozen? ⟨gs,30,none⟩=false:=L2.bn.frozen 30;have z1:wr.frozen? ⟨gs,31,none⟩=false:=L2.bn.frozen 31;have z2:wr.frozen? ⟨gs,32,none⟩=false:=L2.bn.frozen 32;have z3:wr.frozen? ⟨gs,33,none⟩=false:=L2.bn.frozen 33;have ak:=L2.lo1;have ap:=L2.lo2;have fN:Fr (One gs) wr ((((wr.setCell ⟨gs,30,none⟩ (.int .u64 (a0:Int))).setCell ⟨gs,31,none⟩ (.int .u64 (a1:Int))).setCell ⟨gs,32,none⟩ (.int .u64 (a2:Int))).setCell ⟨gs,33,none⟩ (.int .u64 (a3:Int))):=((((Fr.refl (One gs) wr).setOne 30 _).setOne 31 _).setOne 32 _).setOne 33 _;have bN:Blk ((((wr.setCell ⟨gs,30,none⟩ (.int .u64 (a0:Int))).setCell ⟨gs,31,none⟩ (.int .u64 (a1:Int))).setCell ⟨gs,32,none⟩ (.int .u64 (a2:Int))).setCell ⟨gs,33,none⟩ (.int .u64 (a3:Int))) gs 98 (⟨y,x.op.name,a0,a1,a2,a3,lv⟩:Af).cells.toArray:=(((L2.bn.set 30 _).set 31 _).set 32 _).set 33 _;have az:=L2.bx.fr fN (by unfold One;omega);have ag:=L2.bp.fr fN (by unfold One;omega);have yN:=L2.yown.keepP fN (Types.one L2.bn) (by decide) (by decide) (by decide) (by decide) (by decide) (by decide) (by decide);have a8:Fr Non w ((((wr.setCell ⟨gs,30,none⟩ (.int .u64 (a0:Int))).setCell ⟨gs,31,none⟩ (.int .u64 (a1:Int))).setCell ⟨gs,32,none⟩ (.int .u64 (a2:Int))).setCell ⟨gs,33,none⟩ (.int .u64 (a3:Int))):=L2.fr.trans fN (fun k hk e=>by have e':k=gs:=e;omega);clear L2;go_upto_region 39 with (fail)
    clear m0 m1 m2 m3 y0 y1 y2 y3 z0 z1 z2 z3 fN;generalize ((((wr.setCell ⟨gs,30,none⟩ (.int .u64 (a0:Int))).setCell ⟨gs,31,none⟩ (.int .u64 (a1:Int))).setCell ⟨gs,32,none⟩ (.int .u64 (a2:Int))).setCell ⟨gs,33,none⟩ (.int .u64 (a3:Int)))=w3 at*;have r0:w3.cell? ⟨pb,0,none⟩=some (.int .u64 (p0:Int)):=ag.cell 0;have r1:w3.cell? ⟨pb,1,none⟩=some (.int .u64 (p1:Int)):=ag.cell 1;have r2:w3.cell? ⟨pb,2,none⟩=some (.int .u64 (p2:Int)):=ag.cell 2;have r3:w3.cell? ⟨pb,3,none⟩=some (.int .u64 (p3:Int)):=ag.cell 3
    have af:Es w3 gs 30 [a0,a1,a2,a3]:=fun j hj=>by
     rw [bN.cell]
     match j,hj with
     |0,_=>rfl
     |1,_=>rfl
     |2,_=>rfl
     |3,_=>rfl
    have kw:=Lib.hid (My gs 30 98 _ [a0,a1,a2,a3] p0 p1 p2 p3 _ _ w3 hC.out.abv hC.out.par bN af)
    have hD:Hid (∀w4,Blk w4 gs 98 (Hj (⟨y,x.op.name,a0,a1,a2,a3,lv⟩:Af).cells.toArray 30 (orW [a0,a1,a2,a3] [p0,p1,p2,p3]))→Fr (One gs) w3 w4→DSt w w4 base g x y gs (a0|||p0) (a1|||p1) (a2|||p2) (a3|||p3) lv w6):=by
     intro w4 hb hf;exact ⟨hC.out.A,az.fr hf (by unfold One;omega),hb,yN.keepP hf (Types.one bN) (by decide) (by decide) (by decide) (by decide) (by decide) (by decide) (by decide),a8.trans hf (fun k hk e=>by have e':k=gs:=e;omega),ak,al.out,hC.out.hlv,ao.out⟩
    clear af bN az ag yN a8 hC al ao ak ap;go_upto_region 40 with (go_at_call 65;(with_reducible refine (kw.out).mono ?_);rintro _ w4 ⟨rfl,bh,a6⟩)
    have D:=hD.out w4 bh a6;clear hD bh a6 kw r0 r1 r2 r3;obtain ⟨n0,ax⟩:=Aa (a0|||p0);obtain ⟨n1,a4⟩:=Aa (a1|||p1);obtain ⟨n2,bg⟩:=Aa (a2|||p2);obtain ⟨n3,ay⟩:=Aa (a3|||p3);rw [ax.out,a4.out,bg.out,ay.out] at D;clear ax a4 bg ay e3 a9 bj a5;rename_i QQ KB hKB K2 hK2;clear hKB KB QQ;have bo:=aj.out;subst bo;clear aj;revert D;revert hK2;revert base g x w y gs m w6 A6 c6 n w7 pb wv a0 a1 a2 a3 lv lt p0 p1 p2 p3 n0 n1 n2 n3 bb w1 wr b0 b1 b2 b3 cl w3 w4 K2;revert s5 s7 s8 s9 s10 s14 s15 s16 s19 s20 s21 s22 s23 s24 s25 s26 s27 s28 s29 s30 s31 s32 s33 s34 s35 s36 s37 s38 s39 s40 s41 s42 s43 s44 s45 s46 s47 s48 s49 s50 s51 s52 s53 s54 s55 s56 s57 s58 s59 s60 s61 s62 s63 s64 s65 s66 s67 s68 s69 s70 s71 s72 s84 s85 s86 s87 s88 s89 s90 s91 s92 s93 s94 s95 s96 s97 s98 s99 s100 s101 s102 s103 s104 s105 s106 s107 s108 s109 s110 s111 s112 s113 s114 s115 s116 s117 s118 s119 s120 s121 s122 s123 s124 s125 s152 s153 s154 s155 s156 s157 s158 s159 s160 s161 s162 s163 s164 s165 s166 s167 s168 s169 s170 s171 s172 s173 s174 s175 s176 s177 s178 s179 s180 s181 s182 s183 s184 s185 s186 s187 s188 s189 s190 s191 s192 s193 s194 s195 s196 s197 s198 s199 s200 s201 s202 s203 s204 s205 s206 s207 s208 s209 s210 s211 s212 s213 s214 s215 s216 s217 s218 s219 s220 s221 s222 s223 s224 s225 s226 s227 s228 s229 s230 s231 s232 s233 u18 u128 u129 u130 u131 u132 u133 u134 u135 u136 u137 u138 u139 u140 u141 u142 u143 u144 u145 u146;exact hP.down)
end Oq
end
section
open Go.RowKit
theorem Own.block {w:World} {base size n c:Nat} {t:TypeId} {A:Option Addr} {xs:List Value} (h:Own w base t size A n c xs) {k:Nat} (hk:Ab A=some k):∃cs fr,w.heap[k]? =some (.cells cs t fr):=by
 rcases h.2 with ⟨hv,_⟩|⟨g,cap,cur,hv,_,hg,_⟩
 ·
  injection hv with hA
  subst hA
  cases hk
 ·
  injection hv with hA
  subst hA;injection hk with hk
  subst hk;exact ⟨_,_,hg⟩
theorem Own.keepT {S:Nat→Prop} {w w':World} {base size n c:Nat} {t:TypeId} {A:Option Addr} {xs:List Value} {P:TypeId→Prop} (h:Own w base t size A n c xs) (hf:Fr S w w') (hS:Oq.Types S w P) (ht:¬P t):Own w' base t size A n c xs:=
 h.fr hf (fun k hk e=>by
  obtain ⟨cs,fr,hb⟩:=h.block hk;exact ht (hS _ _ _ _ hb e))
namespace Oq
theorem MapAt.ismap {w:World} {b m:Nat} {f:Id→Option Nat} (h:MapAt w b m f):∀cs t fr,w.heap[b]? ≠some (.cells cs t fr):=by
 intro cs t fr e;obtain ⟨n,D,ho,_⟩:=h;obtain ⟨es,clock,hbl,_⟩:=ho;rw [e] at hbl
 cases hbl
theorem Ko {o:Op} (h:o.ok):o.name.ok:=by
 have hu:=Km o;unfold Op.name;generalize o.id=u at*;exact ⟨h.by_,h.sq,hu⟩
def Gty (t:TypeId):Prop:=t=94∨t=98
theorem GAt.types {w:World} {base:Nat} {g:Gph} (h:GAt w base g):Types g.own w Gty:=by
 intro k cs t fr hk e
 rcases e with e|e|e
 ·
  subst e;have h1:=h.blk;unfold Blk at h1;rw [hk] at h1;injection h1 with h1
  injection h1 with _ h2
  exact .inl h2
 ·
  subst e;exact absurd hk (h.map.ismap _ _ _)
 · exact .inr (Types.row h.own k cs t fr hk e)
theorem Yl {l:List Af} {n:Af} (h:Ae l n.id=none) (y:Id):(if y=n.id then some l.length else Ae l y)=Ae (l++[n]) y:=by
 unfold Ae at*;rw [List.findIdx?_append]
 by_cases e:y=n.id
 ·
  subst e;rw [if_pos rfl,h];simp
 ·
  rw [if_neg e]
  have h2:([n].findIdx? (fun m=>decide (m.id=y)))=none:=by
   simp [List.findIdx?_cons,show ¬n.id=y from fun e2=>e e2.symm]
  rw [h2]
  cases l.findIdx? (fun m=>decide (m.id=y))<;>simp
theorem Px:SlT Tryz.prog 92 98 (.agg zN) 35 392:=⟨Tryz.underlying92,by kernel_rfl,rfl,by decide⟩
theorem Ym {w w4 wd w5 w6 w7 wa:World} {base:Nat} {g:Gph} {x y:OpL} {gs n0 n1 n2 n3 lv:Nat} {A':Option Addr} {c':Nat} (hg:GAt w base g) (D:DSt w w4 base g x y gs n0 n1 n2 n3 lv wa) (herr:An g.cards g.pns x.op=0)
  (fd:Fr Non w4 wd) (hm:MapAt w5 g.mb (g.mm+1) (fun z=>if z=x.op.name then some g.nodes.length else Ae g.nodes z)) (f5:Fr (One g.mb) wd w5) (f6:Fr Non w5 w6)
  (own7:Own w7 base 98 35 A' (g.nodes.length+1) c' (g.nodes.flatMap Af.cells++(⟨y,x.op.name,n0,n1,n2,n3,lv⟩:Af).cells)) (f7:Fr (fun k=>Ab g.nA=some k) w6 w7) (hat:Ab A'=Ab g.nA∨Ab A'=some w6.heap.size):
  AddPost base g x.op w (.returned (.int .i64 0)) (w7.setCell ⟨g.gb,2,none⟩ (.slice A' (g.nodes.length+1) c')):=by
 obtain ⟨N,hN⟩:∃N:Af,N=⟨y,x.op.name,n0,n1,n2,n3,lv⟩:=⟨_,rfl⟩;have aa:N.id=x.op.name:=by rw [hN]
 have ap:N.ws=[n0,n1,n2,n3]:=by rw [hN];rfl
 rw [← hN] at own7;have aw:=hg.blk.lt;have af:base≤w.heap.size:=Nat.le_trans hg.gbase (Ag4 aw);have ar:Fr Non w wd:=D.fr.trans fd zr;have ax:=hg.fr ar;have ty:=hg.types
 have ac:g.gb≠g.mb:=fun e=>by
  have h1:=hg.blk;unfold Blk at h1;rw [e] at h1;exact hg.map.ismap _ _ _ h1
 have ah:¬Ab g.nA=some g.mb:=fun e=>by
  obtain ⟨cs,fr,hb⟩:=hg.own.block e;exact hg.map.ismap _ _ _ hb
 have ak:¬Ab g.nA=some g.gb:=hg.own.ne hg.blk (by decide)
 have ab:∀{w0:World},Fr Non w0 wd→Fr g.own w0 (w7.setCell ⟨g.gb,2,none⟩ (.slice A' (g.nodes.length+1) c')):=by
  intro w0 h0;have F5:Fr g.own w0 w5:=(Fr.of_non h0 g.own).trans f5 (fun i _ e=> .inr (.inl e));have F6:Fr g.own w0 w6:=F5.trans f6 (fun _ _ e=>e.elim);have F7:Fr g.own w0 w7:=F6.trans f7 (fun i _ e=> .inr (.inr e));exact F7.setCell (p:=⟨g.gb,2,none⟩) (fun _=> .inl rfl) _
 have F8:=ab ar;have av:=ab fd;have au:=(hg.fr D.fr).types
 have b7:Blk w7 g.gb 94 #[.slice g.cA g.cards.length g.cC,.map (some g.mb),.slice g.nA g.nodes.length g.nC]:=
  ((ax.blk.fr f5 (fun e=>ac e)).fr f6 zq).fr f7 ak
 have ag:Ab A'≠some g.gb:=own7.ne b7 (by decide);have fz:Fr (One g.gb) w7 (w7.setCell ⟨g.gb,2,none⟩ (.slice A' (g.nodes.length+1) c')):=(Fr.refl _ _).setOne 2 _;have m8:=(((hm.fr f6 zq).fr f7 ah).fr fz (fun e=>ac e.symm))
 have ao:Ae g.nodes N.id=none:=by
  rw [aa,← Fb];exact D.A.new
 have aq:MapAt (w7.setCell ⟨g.gb,2,none⟩ (.slice A' (g.nodes.length+1) c')) g.mb (g.mm+1) (Ae (g.nodes++[N])):=by
  have e:(fun z=>if z=x.op.name then some g.nodes.length else Ae g.nodes z)=Ae (g.nodes++[N]):=by
   funext z;rw [← aa];exact Yl ao z
  rw [← e];exact m8
 have ad:(g.nodes++[N]).length=g.nodes.length+1:=by simp
 have aj:lv≤g.nodes.length+1:=by
  rw [D.hlv];refine U7 g.pns g.nodes.length (fun n hn=> ?_) _;obtain ⟨m,hm,rfl⟩:=List.mem_map.1 hn;exact hg.levs m hm
 have ae:Ao N.ws N.past:=by
  rw [ap];refine ⟨rfl,D.set.u64,fun n hn=> ?_⟩;unfold Af.past;rw [ap]
 have al:N.past=Ad g.pns x.op.past:=by
  have h1:Ao N.ws (fun q=>Bn g.pns x.op.past q||Cc g.pns x.op.past q):=by rw [ap];exact D.set
  rw [U9 h1];rfl
 have ai:N.okAt (w7.setCell ⟨g.gb,2,none⟩ (.slice A' (g.nodes.length+1) c')) base:=by
  refine ⟨?_,?_,?_,ae⟩
  ·
   rw [hN];exact (D.yown.keepP av au (by unfold Gty;decide) (by unfold Gty;decide) (by unfold Gty;decide) (by unfold Gty;decide) (by unfold Gty;decide) (by unfold Gty;decide) (by unfold Gty;decide)).lower af
  ·
   have h1:N.x.op=x.op:=by rw [hN];exact D.A.yop
   rw [h1];exact D.A.hok
  ·
   rw [aa];exact Ko D.A.hok
 refine ⟨by rw [herr],.inr ⟨herr,⟨g.gb,g.mb,g.mm+1,g.cA,g.cC,g.cards,A',c',g.nodes++[N]⟩,?_,rfl,rfl,rfl,?_,F8,?_,N,rfl,?_⟩⟩
 ·
  refine ⟨?_,hg.pos,hg.gbase,hg.mbase,hg.crow.keepT F8 ty (by unfold Gty;decide),?_,?_,?_,?_,hg.cfew,hg.cok,aq,?_⟩
  ·
   show Blk _ g.gb _ #[.slice g.cA g.cards.length g.cC,.map (some g.mb),.slice A' (g.nodes++[N]).length c'];rw [ad];exact b7.set 2 _
  ·
   show Own _ base 98 35 A' (g.nodes++[N]).length c' ((g.nodes++[N]).flatMap Af.cells);rw [ad,List.flatMap_append,List.flatMap_cons,List.flatMap_nil,List.append_nil];exact own7.setOne ag
  ·
   show (g.nodes++[N]).length≤200;have:=D.A.few;omega
  ·
   show g.mm+1≤(g.nodes++[N]).length;have:=hg.mfew;omega
  ·
   intro n hn;show n.lev≤(g.nodes++[N]).length;rw [ad]
   rcases List.mem_append.1 hn with hn|hn
   ·
    have:=hg.levs n hn;omega
   ·
    obtain rfl:=List.mem_singleton.1 hn;rw [hN];exact aj
  ·
   intro n hn
   rcases List.mem_append.1 hn with hn|hn
   ·
    have k:=hg.node n hn;exact ⟨k.own.keepP F8 ty (by unfold Gty;decide) (by unfold Gty;decide) (by unfold Gty;decide) (by unfold Gty;decide) (by unfold Gty;decide) (by unfold Gty;decide) (by unfold Gty;decide),k.ok,k.id,k.set⟩
   ·
    obtain rfl:=List.mem_singleton.1 hn;exact ai
 ·
  show (g.nodes++[N]).map Af.pn=g.nodes.map Af.pn++[Aq g.pns x.op];rw [List.map_append,List.map_cons,List.map_nil];congr 2;unfold Af.pn Aq;rw [al,aa];congr 1
  ·
   rw [hN];exact D.A.yop
  ·
   rw [hN];exact D.hlv
 ·
  intro k hk e
  rcases e with e|e|e
  · exact .inl e
  · exact .inr (.inl e)
  ·
   refine .inr (.inr ?_);have e':Ab A'=some k:=e
   rcases hat with h1|h1
   ·
    rw [← h1];exact e'
   ·
    rw [h1] at e';injection e' with e'
    have:=(ar.size);have h5:=f5.size;have h6:=f6.size;omega
 ·
  rw [hN];exact D.yown.keepP av au (by unfold Gty;decide) (by unfold Gty;decide) (by unfold Gty;decide) (by unfold Gty;decide) (by unfold Gty;decide) (by unfold Gty;decide) (by unfold Gty;decide)
end Oq
end
section
open Go.RowKit
attribute [local go_sem ↓] Go.wp_at_zero Go.wp_at_succ
namespace Oq
attribute [local go_sem] Af9 Ag0
theorem Yn {l:List Pn} {p:Nat→Bool} {d:Int} {k:Nat} {n:Pn} (h:l[k]? =some n):Aj l p d (k+1)=if (n.o.by_==d&&p k)=true then max (Aj l p d k) n.o.sq else Aj l p d k:=by
 show (match l[k]? with|some n=>if (n.o.by_==d&&p k)=true then max (Aj l p d k) n.o.sq else Aj l p d k|none=>Aj l p d k)=_;rw [h]
theorem Yo {l:List Pn} {p:Nat→Bool} {d s:Int} {k:Nat} {n:Pn} (h:l[k]? =some n):Cn l p d s (k+1)=(Cn l p d s k||(n.o.by_==d&&p k&&n.o.sq==s-1)):=by
 show (match l[k]? with|some n=>Cn l p d s k||(n.o.by_==d&&p k&&n.o.sq==s-1)|none=>Cn l p d s k)=_;rw [h]
theorem Yp {o:Op} (h:o.chk=0):1≤o.sq∧o.sq≤2147483647:=by
 have h1:=(chk_ok.1 h).2.2.1;unfold Op.numsB at h1;simp only [Ah6] at h1;have h2:=h1.1.1.2;unfold inR at h2;simpa using h2
def bsS (t:TypeId) (len:Nat) (parts:Array (Nat × Value)):=Instr.buildSlice t len parts
theorem Yq (n:Nat) (p:Array (Nat × Value)):Instr.buildSlice 92 n p=bsS 92 n p:=rfl
theorem Yr (N:Af) (w:World):(bsS 92 1 #[(0,.agg N.cells.toArray)]).run Tryz.prog w=.ok (.slice (some ⟨w.heap.size,0,none⟩) 1 1) (w.alloc (.cells N.cells.toArray 98)):=by
 obtain ⟨ht,hinfo,_⟩:=Px;obtain ⟨i,hi,hz,hs,_⟩:=info_parts hinfo;exact run_buildSlice w 92 98 1 _ _ i _ ht hi hz (by rw [hs];decide) (by rw [hs];decide) (by rw [hs];kernel_rfl)
theorem Ys {P:Program} {o:Oper} {a:Act} {K:Act→World→Prop} {Q:Exit→Act→World→Prop} {w:World} (s x:Operand) (t:TypeId)
  (ho:o.op=.call {callee:=.builtin .append,args:=#[s,x],argTypes:=#[t,t]})
  {base size n c:Nat} {e:TypeId} {A:Option Addr} {xs:List Value} {z:Value} {bytes m cx B:Nat} {Ax:Option Addr} {news:List Value}
  (hs:a.eval s=.slice A n c) (hx:a.eval x=.slice Ax m cx)
  (hT:SlT P t e z size bytes) (h:Own w base e size A n c xs) (hr:Rd w B size Ax m news)
  (h1:∀u∈news,u.oneCell'=true) (hbytes:(n+m)*bytes≤140737488355328) (hmax:n+m≤9223372036854775807) (hbase:base≤w.heap.size)
  (hk:∀A' c' w',Own w' base e size A' (n+m) c' (xs++news)→Fr (fun k=>Ab A=some k) w w'→(Ab A'=Ab A∨Ab A'=some w.heap.size)→
   K (a.put o.dst (.slice A' (n+m) c')) w'):Oper.wp P o a w K Q:=by
 obtain ⟨A',c',w',hrun,h2,h3,h4⟩:=Gd (P:=P) (ty:=o.type) (cx:=cx) hT h hr h1 hbytes hmax hbase;unfold Oper.wp execOp;simp only [ho,resolve,invoke,builtin,Sem.run_bind,Sem.run_pure,Result.andThen_ok,List.map_toArray,List.map_cons,List.map_nil,hs,hx,hrun];exact hk A' c' w' h2 h3 h4
attribute [local go_sem ↓] H9 Ia Yq
theorem Yt:addD.1:=by
 conv=>whnf
 intro r5 r7 r8 r9 hy hd ic hp i8 h8 iz ht h2 ik g7 hc ix jo gz hs hm iu ho jl iw he hw jf ig jm g3 hl g6 jn jj g0 h6 h5 h7 iy ia im io ja je i7 g5 hn ji jg iq g2 hr jb ij g1 i5 h3 jc ie ct f8 dc di dr ef fg dj d7 dx e2 ej d9 ew eg fp fi gi gh f9 dd f0 e6 d2 c8 d0 ez fw gd d8 d5 gq ei el fv c4 df d6 dt fs eh fm eb em cn fk d4 gp gj cy du gf d1 ee ev dp ea gu fl fq ga e5 cw dh dm eu cr ey dg fz dk ec dv da dy f4 e7 cx ds dw d3 en gy h9 g4 ip ir jh hh ib jd il g9 jk g8 i0 iv h4 i9 ii ed gm e3 fx gg ff cq db ft ek dl gl cm c0 c9 fo dn fh dq eo gv gc e8 c3 ck et ha fj er es co fc fn ep fu cz e4 gw e9 dz gx cv ge f3 f2 fb base g x w y gs m w6 A6 c6 n w7 pb wv a0 a1 a2 a3 lv lt p0 p1 p2 p3 bb w1 wq b0 b1 b2 b3 cl w3 w4 K n0 n1 n2 n3 hK D;have hg:=D.A.hg;have ca:=Yp D.A.chk;replace ca:1≤x.sq∧x.sq≤2147483647:=ca;have bq:=D.A.few;have hD:=Lib.hid D
 have bt:Hid (∀i,i<256→Ad g.pns x.op.past i=(Bn g.pns x.op.past i||Cc g.pns x.op.past i)):=fun i hi=>by
  unfold Ad;simp [hi]
 have bp:Hid (g.pns.length=g.nodes.length):=by show _=_;unfold Gph.pns;rw [Ag1]
 obtain ⟨CX,bg⟩:=Aa x.cells;have e0:Hid (CX[0]? =some (.int .i64 x.by_)):=by show _=_;rw [← bg.out];rfl
 have e1:Hid (CX[1]? =some (.int .i64 x.sq)):=by show _=_;rw [← bg.out];rfl
 have hx:Hid (∀wz,Fr Non w4 wz→wz.cell? ⟨w.heap.size,0,none⟩=some (.int .i64 x.by_)∧wz.cell? ⟨w.heap.size,1,none⟩=some (.int .i64 x.sq)):=fun wz hf=>by
  have h:=D.bx.fr hf zq;have h0:=h.cell 0;have h1:=h.cell 1;rw [bg.out] at h0 h1;rw [e0.out] at h0;rw [e1.out] at h1;exact ⟨h0,h1⟩
 have a6:Hid (∀wz,Fr Non w4 wz→wz.cell? ⟨g.gb,2,none⟩=some (.slice g.nA g.nodes.length g.nC)):=fun wz hf=>((hg.fr D.fr).fr hf).blk.cell 2;rw [bg.out];obtain ⟨nn,ao⟩:=Aa g.nodes.length;rw [ao.out] at a6 bq bp;have c2:=a6.out w4 (Fr.refl _ _);clear D;go_wp2_with (fail);clear c2
 go_loopw [19,20,158] (fun tl ta v wr=>∃(i:Nat) (la:Int) (ah:Bool),tl=.int .i64 la∧ta=.bool ah∧v=.int .i64 (i:Int)∧i≤nn∧Hid (la=Aj g.pns (Ad g.pns x.op.past) x.by_ i)∧Hid (ah=Cn g.pns (Ad g.pns x.op.past) x.by_ x.sq i)∧Fr Non w4 wr) (fun _ _ v _=>nn-(intOf v).toNat)
 case atStart=>exact ⟨0,0,false,rfl,rfl,rfl,by omega,rfl,rfl,Fr.refl _ _⟩
 case round=>
  obtain ⟨i,la,ah,rfl,rfl,rfl,hi,aj,ai,hf⟩:=hrel
  by_cases hin:i<nn
  ·
   as_aux_lemma=>
   have i1:(0:Int)≤i:=by omega
   have i2:(i:Int)<nn:=by omega
   have i3:(i:Int).toNat=i:=by omega
   have i4:IntKind.i64.wrap (i:Int)=i:=IntWalk.i64_in _ (by omega);obtain ⟨nd,bo⟩:∃z,g.nodes[i]? =some z:=⟨_,Af8 (by rw [ao.out];exact hin)⟩;have bu:g.pns[i]? =some nd.pn:=by unfold Gph.pns;rw [Ag6,bo];rfl
   obtain ⟨bn,ab,ci,gk,ae⟩:=hg.cell bo;have ad:=Lib.hid (Yn (p:=Ad g.pns x.op.past) (d:=x.by_) bu);have af:=Lib.hid (Yo (p:=Ad g.pns x.op.past) (d:=x.by_) (s:=x.sq) bu)
   have bw:Hid (∀wz,Fr Non w4 wz→wz.cell? ⟨bn,ab+i*35,none⟩=some (.int .i64 nd.x.by_)∧wz.cell? ⟨bn,ab+i*35+1,none⟩=some (.int .i64 nd.x.sq)):=fun wz hf=>by
    have f1:=hD.out.fr.trans hf zr;exact ⟨f1.cell (ae 0 (by omega) _ rfl) zq,f1.cell (ae 1 (by omega) _ rfl) zq⟩
   have kh:=Lib.hid (fun wz (hz:Fr Non w4 wz)=>Mw gs 30 [n0,n1,n2,n3] _ i wz hD.out.set (fun j hj=>by
    rw [(hD.out.bn.fr hz zq).cell]
    match j,hj with
    |0,_=>rfl
    |1,_=>rfl
    |2,_=>rfl
    |3,_=>rfl) (by omega))
   obtain ⟨mi,bl⟩:=Aa (Bn g.pns x.op.past i||Cc g.pns x.op.past i);have b8:Hid (Ad g.pns x.op.past i=mi):=(bt.out i (by omega)).trans bl.out;rw [bl.out] at kh;have c2:=a6.out wr hf;rw [ci] at c2;obtain ⟨ar,aq⟩:=bw.out wr hf;obtain ⟨x0,x1⟩:=hx.out wr hf;have cj:IntKind.i64.wrap (x.sq-1)=x.sq-1:=IntWalk.i64_in _ (by omega);rw [b8.out] at ad af;replace ad:Hid (Aj g.pns (Ad g.pns x.op.past) x.by_ (i+1)=if (nd.x.by_==x.by_&&mi)=true then max (Aj g.pns (Ad g.pns x.op.past) x.by_ i) nd.x.sq else Aj g.pns (Ad g.pns x.op.past) x.by_ i):=ad;replace af:Hid (Cn g.pns (Ad g.pns x.op.past) x.by_ x.sq (i+1)=(Cn g.pns (Ad g.pns x.op.past) x.by_ x.sq i||(nd.x.by_==x.by_&&mi&&nd.x.sq==x.sq-1))):=af;clear bu bo ae ci bt bl b8 a6 hg hD
   rcases zb (nd.x.by_==x.by_) with hq|hq
   ·
    rw [hq] at ad af;go_upto_region 46 with (fail)
    clear c2;refine wp_region_held_drew (S:=(fun w'=>w'.cell? ⟨bn,ab+i*35,none⟩=some (.int .i64 nd.x.by_)∧w'.cell? ⟨w.heap.size,0,none⟩=some (.int .i64 x.by_))) (by kernel_rfl) ⟨ar,x0⟩ (fun hHeld=> ?_);clear hHeld;have hS:(fun w'=>w'.cell? ⟨bn,ab+i*35,none⟩=some (.int .i64 nd.x.by_)∧w'.cell? ⟨w.heap.size,0,none⟩=some (.int .i64 x.by_)) wr.drew:=⟨ar,x0⟩;replace hf:=hf.drew;refine tkH 0 hS (h:=tkH 1 hS (h:=tkH 2 hS (h:=tkH 3 hS (h:=tkH 4 hS (h:=tkH 5 hS (h:=tkH 6 hS (h:=tkH 7 hS (h:=tkH 8 hS (h:=tkH 9 hS (h:=tkH 10 hS (h:=?_)))))))))));simp only [List.set];refine oG 11 (fun K hK=> ?_);go_simp;go_wp2_with (go_at_call 42;(with_reducible refine (kh.out _ hf).mono ?_);rintro _ _ ⟨rfl,rfl⟩);refine hK.out _ _ hS (fun hZ=> ?_);clear hZ hK K kh;try simp only [Ag,List.set]
    refine tkH 12 hS (h:=?_);simp only [List.set];refine oD ?_;go_simp;obtain ⟨ar,aq⟩:=bw.out wr.drew hf;obtain ⟨x0,x1⟩:=hx.out wr.drew hf;clear hS bw ar x0
    cases mi
    ·
     have av:Hid (la=Aj g.pns (Ad g.pns x.op.past) x.by_ (i+1)):=by show _=_;rw [ad.out,← aj.out];rfl
     have ap:Hid (ah=Cn g.pns (Ad g.pns x.op.past) x.by_ x.sq (i+1)):=by show _=_;rw [af.out,← ai.out];simp
     clear ad af aj ai aq x1;go_wp2_with (fail);go_roundw
     case rel=>exact ⟨i+1,la,ah,rfl,rfl,by go_num,by omega,av,ap,hf⟩
     case measure=>simp [intOf];omega
    ·
     have av:Hid (max la nd.x.sq=Aj g.pns (Ad g.pns x.op.past) x.by_ (i+1)):=by show _=_;rw [ad.out,← aj.out];rfl
     have ap:Hid ((ah||nd.x.sq==x.sq-1)=Cn g.pns (Ad g.pns x.op.past) x.by_ x.sq (i+1)):=by show _=_;rw [af.out,← ai.out];simp
     clear ad af aj ai;go_upto_region 48 with (fail)
     generalize wr.drew=w5 at*
     cases ah
     case false=>
      refine wp_region_held_drew (S:=(fun w'=>w'.cell? ⟨bn,ab+i*35+1,none⟩=some (.int .i64 nd.x.sq)∧w'.cell? ⟨w.heap.size,1,none⟩=some (.int .i64 x.sq))) (by kernel_rfl) ⟨aq,x1⟩ (fun hHeld=> ?_);clear hHeld;have hS:(fun w'=>w'.cell? ⟨bn,ab+i*35+1,none⟩=some (.int .i64 nd.x.sq)∧w'.cell? ⟨w.heap.size,1,none⟩=some (.int .i64 x.sq)) w5.drew:=⟨aq,x1⟩;replace hf:=hf.drew;refine tkH 0 hS (h:=tkH 1 hS (h:=tkH 2 hS (h:=tkH 3 hS (h:=tkH 4 hS (h:=tkH 5 hS (h:=tkH 6 hS (h:=tkH 7 hS (h:=tkH 8 hS (h:=tkH 9 hS (h:=tkH 10 hS (h:=tkH 11 hS (h:=?_))))))))))));simp only [List.set];refine tkH 12 hS (h:=?_);simp only [List.set];refine oD ?_;go_simp;go_wp2_with (fail);go_roundw
      case rel=>exact ⟨i+1,max la nd.x.sq,_,rfl,rfl,by go_num,by omega,av,ap,hf⟩
      case measure=>simp [intOf];omega
     case true=>
      refine wp_region_held_drew (S:=(fun w'=>w'.cell? ⟨bn,ab+i*35+1,none⟩=some (.int .i64 nd.x.sq)∧w'.cell? ⟨w.heap.size,1,none⟩=some (.int .i64 x.sq))) (by kernel_rfl) ⟨aq,x1⟩ (fun hHeld=> ?_);clear hHeld;have hS:(fun w'=>w'.cell? ⟨bn,ab+i*35+1,none⟩=some (.int .i64 nd.x.sq)∧w'.cell? ⟨w.heap.size,1,none⟩=some (.int .i64 x.sq)) w5.drew:=⟨aq,x1⟩;replace hf:=hf.drew;refine tkH 0 hS (h:=tkH 1 hS (h:=skH 2 hS (h:=skH 3 hS (h:=skH 4 hS (h:=skH 5 hS (h:=skH 6 hS (h:=skH 7 hS (h:=skH 8 hS (h:=skH 9 hS (h:=skH 10 hS (h:=tkH 11 hS (h:=?_))))))))))));simp only [List.set];refine tkH 12 hS (h:=?_);simp only [List.set];refine oD ?_;go_simp;go_wp2_with (fail);go_roundw
      case rel=>exact ⟨i+1,max la nd.x.sq,_,rfl,rfl,by go_num,by omega,av,ap,hf⟩
      case measure=>simp [intOf];omega
   ·
    rw [hq] at ad af;have av:Hid (la=Aj g.pns (Ad g.pns x.op.past) x.by_ (i+1)):=by show _=_;rw [ad.out,← aj.out];rfl
    have ap:Hid (ah=Cn g.pns (Ad g.pns x.op.past) x.by_ x.sq (i+1)):=by show _=_;rw [af.out,← ai.out];simp
    clear ad af aj ai;go_upto_region 46 with (fail)
    clear c2;refine wp_region_held_drew (S:=(fun w'=>w'.cell? ⟨bn,ab+i*35,none⟩=some (.int .i64 nd.x.by_)∧w'.cell? ⟨w.heap.size,0,none⟩=some (.int .i64 x.by_))) (by kernel_rfl) ⟨ar,x0⟩ (fun hHeld=> ?_);clear hHeld;have hS:(fun w'=>w'.cell? ⟨bn,ab+i*35,none⟩=some (.int .i64 nd.x.by_)∧w'.cell? ⟨w.heap.size,0,none⟩=some (.int .i64 x.by_)) wr.drew:=⟨ar,x0⟩;replace hf:=hf.drew;refine tkH 0 hS (h:=tkH 1 hS (h:=tkH 2 hS (h:=tkH 3 hS (h:=tkH 4 hS (h:=tkH 5 hS (h:=tkH 6 hS (h:=tkH 7 hS (h:=tkH 8 hS (h:=skH 9 hS (h:=skH 10 hS (h:=skH 11 hS (h:=?_))))))))))));simp only [List.set];refine tkH 12 hS (h:=?_);simp only [List.set];refine oD ?_;go_simp;clear hS;go_wp2_with (fail);go_roundw
    case rel=>exact ⟨i+1,la,ah,rfl,rfl,by go_num,by omega,av,ap,hf⟩
    case measure=>simp [intOf];omega
  ·
   obtain rfl:nn=i:=by omega
   have ac:Hid (Bu g.pns (Ad g.pns x.op.past) x.op=(decide (x.sq≤la)||(decide (1<x.sq)&& !ah))):=by
    show _=_;unfold Bu;rw [bp.out];rw [show x.op.by_=x.by_ from rfl,show x.op.sq=x.sq from rfl,← aj.out,← ai.out]
   obtain ⟨x0,x1⟩:=hx.out wr hf;obtain ⟨bad,au⟩:=Aa (decide (x.sq≤la)||(decide (1<x.sq)&& !ah));clear aj ai hi hin hx a6 bp bt x0;go_upto_region 50 with (fail)
   go_cut [212] from 200 to 212 (fun s wc=>wr=wc∧s=.bool bad)
   case first=>
    clear hD ac hg
    as_aux_lemma=>
    rcases zb (decide (x.sq≤la)) with t1|t1
    ·
     have hv:Hid (true=bad):=by show _=_;rw [← au.out,t1];rfl
     go_wp2_with (fail);go_meet;exact ⟨rfl,congrArg Value.bool hv.out⟩
    ·
     rcases zb (decide (1<x.sq)) with t2|t2
     ·
      have hv:Hid ((!ah)=bad):=by show _=_;rw [← au.out,t1,t2];rfl
      go_wp2_with (fail);go_meet;exact ⟨rfl,congrArg Value.bool hv.out⟩
     ·
      have hv:Hid (false=bad):=by show _=_;rw [← au.out,t1,t2];rfl
      go_wp2_with (fail);go_meet;exact ⟨rfl,congrArg Value.bool hv.out⟩
   case rest=>
   obtain ⟨rfl,rfl⟩:=hcut;clear x1;rw [au.out] at ac
   cases bad
   case true=>
    have bi:=Lib.hid (AddPost.bad (base:=base) (w':=wr) (by rw [hD.out.err,if_pos ac.out]) (by decide) (hD.out.fr.trans hf zr));clear hD ac au hg hf
    as_aux_lemma=>
    go_wp2_with (fail)
    go_ret
    exact bi.out
   case false=>
    have ax:An g.cards g.pns x.op=0:=by rw [hD.out.err,ac.out];rfl
    have D:=hD.out;obtain ⟨aa,ag⟩:=Aa x.op.name;have bv:aa.ok:=by rw [← ag.out];exact Ko D.A.hok
    have de:Fr Non w wr:=D.fr.trans hf zr;have bf:=hg.fr de;have aw:=D.bn.fr hf zq;rw [ag.out] at aw;have cd:wr.cell? ⟨gs,27,none⟩=some (.int .i64 aa.b):=aw.cell 27;have bz:wr.cell? ⟨gs,28,none⟩=some (.int .i64 aa.s):=aw.cell 28;have cf:wr.cell? ⟨gs,29,none⟩=some (.int .u64 (aa.u:Int)):=aw.cell 29;have c1:wr.cell? ⟨g.gb,1,none⟩=some (.map (some g.mb)):=bf.blk.cell 1;have c2:wr.cell? ⟨g.gb,2,none⟩=some (.slice g.nA nn g.nC):=by rw [← ao.out];exact bf.blk.cell 2
    obtain ⟨w5,a5,ce,ch⟩:=MapAt.store (bf.map.fr ((Fr.refl Non wr).drew) zq) aa bv nn (by omega) (by have:=hg.mfew;have:=hg.few;omega);have f5:Fr (One g.mb) wr.drew w5:=(Fr.refl (One g.mb) wr.drew).grown ch (fun k hk _=>by injection hk with hk;exact hk.symm);have ak:(Instr.mapUpdate 91 (.map (some g.mb)) (.agg aa.V) (.int .i64 (nn:Int))).run Tryz.prog wr.drew=.ok () w5:=a5;clear a5 ch ac au;go_upto_region 52 with (fail)
    refine Cw (S:=(fun w'=>w'.cell? ⟨gs,27,none⟩=some (.int .i64 aa.b)∧w'.cell? ⟨gs,28,none⟩=some (.int .i64 aa.s)∧w'.cell? ⟨gs,29,none⟩=some (.int .u64 (aa.u:Int))∧w'.cell? ⟨g.gb,1,none⟩=some (.map (some g.mb))∧w'.cell? ⟨g.gb,2,none⟩=some (.slice g.nA nn g.nC))) 11 (by kernel_rfl) ?_;have hS:(fun w'=>w'.cell? ⟨gs,27,none⟩=some (.int .i64 aa.b)∧w'.cell? ⟨gs,28,none⟩=some (.int .i64 aa.s)∧w'.cell? ⟨gs,29,none⟩=some (.int .u64 (aa.u:Int))∧w'.cell? ⟨g.gb,1,none⟩=some (.map (some g.mb))∧w'.cell? ⟨g.gb,2,none⟩=some (.slice g.nA nn g.nC)) wr.drew:=⟨cd,bz,cf,c1,c2⟩;obtain ⟨wd,cb⟩:=Aa wr.drew;have fd:Fr Non w4 wd:=by rw [← cb.out];exact hf.drew
    rw [cb.out] at hS f5 ak ⊢;refine tkG 0 hS (h:=tkG 1 hS (h:=tkG 2 hS (h:=tkG 3 hS (h:=tkG 4 hS (h:=tkG 5 hS (h:=tkG 6 hS (h:=tkG 7 hS (h:=tkG 8 hS (h:=tkG 9 hS (h:=tkG 10 hS (h:=?_)))))))))));simp only [List.set];refine Cr (by kernel_rfl) ?_;refine oG 11 (fun K hK=> ?_);go_simp;refine hK.out _ _ trivial (fun hZ=> ?_);clear hZ hK K;try simp only [put_lit2,List.set]
    refine oD ?_;go_simp;clear hS ak cd bz cf c1 c2 bf aw;have cg:Fr Non w wd:=D.fr.trans fd zr;have br:=hg.fr cg;have gn:g.mb<w.heap.size:=hg.map.lt;have fy:=D.lo1
    have ay:g.gb≠g.mb:=fun e=>by
     have h1:=hg.blk;unfold Blk at h1;rw [e] at h1;exact hg.map.ismap _ _ _ h1
    have bj:¬Ab g.nA=some g.mb:=fun e=>by
     obtain ⟨cs,fr,hb⟩:=hg.own.block e;exact hg.map.ismap _ _ _ hb
    have ba:¬Ab g.nA=some g.gb:=hg.own.ne hg.blk (by decide);have bs:¬Ab g.nA=some gs:=fun e=>by have:=(hg.own.row _ e).2;omega
    have b5:=br.blk.fr f5 (fun e=>ay e)
    have cp:Blk w5 gs 98 (⟨y,aa,n0,n1,n2,n3,lv⟩:Af).cells.toArray:=by
     have h1:=(D.bn.fr fd zq).fr f5 (fun e=>by have e':gs=g.mb:=e;omega);rw [ag.out] at h1;exact h1
    have bk:Own w5 base 98 35 g.nA nn g.nC (g.nodes.flatMap Af.cells):=by
     rw [← ao.out];exact br.own.fr f5 (fun k hk e=>by have e':k=g.mb:=e;subst e';exact bj hk)
    have c5:w5.cell? ⟨g.gb,2,none⟩=some (.slice g.nA nn g.nC):=by rw [← ao.out];exact b5.cell 2
    have a4:(Tryz.prog.info? 98).map (·.size)=some (⟨y,aa,n0,n1,n2,n3,lv⟩:Af).cells.toArray.size:=by
     show _=some 35
     kernel_rfl
    have gr:=Cf (P:=Tryz.prog) gs 98 Tryz.underlying98 rfl (cs:=(⟨y,aa,n0,n1,n2,n3,lv⟩:Af).cells.toArray) a4;have cu:=Yr ⟨y,aa,n0,n1,n2,n3,lv⟩;have az:=Ic ⟨y,aa,n0,n1,n2,n3,lv⟩;have bm:(⟨y,aa,n0,n1,n2,n3,lv⟩:Af).cells.length=35:=rfl;have al:=Lib.hid (fun (A':Option Addr) (c':Nat) (w6 w7:World)=>Ym (w4:=w4) (wd:=wd) (w5:=w5) (w6:=w6) (w7:=w7) (A':=A') (c':=c') hg D ax fd);have b9:base≤w.heap.size:=Nat.le_trans hg.gbase (Ag4 hg.blk.lt);have i6:=f5.size;have ih:=cg.size;rw [ag.out,ao.out] at al;clear br D ax hD hf;go_upto_region 53 with (fail)
    refine Cw (S:=(fun w'=>w'.cell? ⟨g.gb,2,none⟩=some (.slice g.nA nn g.nC)∧Blk w' gs 98 (⟨y,aa,n0,n1,n2,n3,lv⟩:Af).cells.toArray)) 10 (by kernel_rfl) ?_;have hS:(fun w'=>w'.cell? ⟨g.gb,2,none⟩=some (.slice g.nA nn g.nC)∧Blk w' gs 98 (⟨y,aa,n0,n1,n2,n3,lv⟩:Af).cells.toArray) w5.drew:=⟨c5,cp⟩;obtain ⟨we,cc⟩:=Aa w5.drew;have fe:Fr Non w5 we:=by rw [← cc.out];exact (Fr.refl Non w5).drew
    have a8:=bk.fr fe zr;have be:=b5.fr fe zq;have gt:=fe.size;rw [cc.out] at hS ⊢;refine tkG 0 hS (h:=tkG 1 hS (h:=tkG 2 hS (h:=tkG 3 hS (h:=tkG 4 hS (h:=tkG 5 hS (h:=?_))))));simp only [List.set];refine Bj 6 (by kernel_rfl) rfl (fun K hK=> ?_);go_simp;have fa:Fr Non we (we.alloc (.cells (⟨y,aa,n0,n1,n2,n3,lv⟩:Af).cells.toArray 98)):=(Fr.refl Non we).alloc _;have bh:(fun w'=>w'.cell? ⟨g.gb,2,none⟩=some (.slice g.nA nn g.nC)∧Blk w' gs 98 (⟨y,aa,n0,n1,n2,n3,lv⟩:Af).cells.toArray) (we.alloc (.cells (⟨y,aa,n0,n1,n2,n3,lv⟩:Af).cells.toArray 98)):=⟨fa.cell hS.1 zq,hS.2.fr fa zq⟩;have bd:=a8.fr fa zr;have a7:=Rd.blk (n:=1) (size:=35) (l:=(⟨y,aa,n0,n1,n2,n3,lv⟩:Af).cells) (Blk.new we 98 (⟨y,aa,n0,n1,n2,n3,lv⟩:Af).cells.toArray) (by rw [bm]);have b6:=be.fr fa zq;have f6:=fe.trans fa zr;refine hK.out _ _ bh (fun hZ=> ?_);clear hZ hK K;try simp only [Ag,List.set]
    generalize we.alloc (.cells (⟨y,aa,n0,n1,n2,n3,lv⟩:Af).cells.toArray 98)=w6 at*;refine Bj 7 (by kernel_rfl) rfl (fun K hK=> ?_);refine Ys (base:=base) (.tmp 228) (.tmp 230) 92 (by rfl) (by rfl) (by rfl) Px bd a7 (by intro u hu;exact (Array.all_eq_true'.1 az) u (by simpa using hu)) (by omega) (by omega) (by have:=f6.size;omega) ?_;intro A' c' w7 a9 f7 b4;have bc:(fun w'=>w'.cell? ⟨g.gb,2,none⟩=some (.slice g.nA nn g.nC)∧Blk w' gs 98 (⟨y,aa,n0,n1,n2,n3,lv⟩:Af).cells.toArray) w7:=⟨f7.cell bh.1 ba,bh.2.fr f7 bs⟩;have b7:=b6.fr f7 ba;refine hK.out _ _ bc (fun hZ=> ?_);clear hZ hK K;try simp only [Ag,List.set]
    refine Bj 8 (by kernel_rfl) rfl (fun K hK=> ?_);go_simp;refine hK.out _ _ bc (fun hZ=> ?_);clear hZ hK K;try simp only [Ag,List.set]
    refine tkG 9 bc (h:=?_);simp only [List.set];have bi:=Lib.hid (al.out A' c' w6 w7 ce f5 f6 a9 f7 b4);have c7:w7.cell? ⟨g.gb,2,none⟩=some (.slice g.nA nn g.nC):=bc.1;have z7:w7.frozen? ⟨g.gb,2,none⟩=false:=b7.frozen 2;refine Cr (by kernel_rfl) ?_;refine oG 10 (fun K hK=> ?_);go_simp;refine hK.out _ _ trivial (fun hZ=> ?_);clear hZ hK K;try simp only [put_lit2,List.set]
    refine oD ?_;go_simp;clear hS bh bc a9 f7 b4 b7 c7 z7 al ce f5 f6 bd a7 b6 be a8 fe gt gr cu az;go_wp2_with (fail)
    go_ret
    exact bi.out
theorem Ju (base:Nat) (g:Gph) (x:OpL) (w:World) (hg:GAt w base g) (hat:x.at w w.heap.size) (hok:x.op.ok) (hkn:KindsAt w):
  Calls Tryz.prog 34 #[.pointer (some ⟨g.gb,0,none⟩),.agg x.cells] w (AddPost base g x.op w):=
 addA.2 ⟨addB.2 ⟨addC.2 ⟨addD.2 ⟨Yt⟩⟩⟩⟩ base g x w hg hat hok hkn
end Oq
end
section
open Go.RowKit
namespace Oq
def sgn (o:Op):Op:={o with r:=Sg.r (sec Bf o.by_.toNat) o.bare,s:=Sg.s (sec Bf o.by_.toNat) o.bare}
theorem Yu (o:Op) (R S:Nat):({o with r:=R,s:=S}:Op).chk=o.chk:=rfl
theorem Py (o:Op) (R S:Nat):({o with r:=R,s:=S}:Op).bare=o.bare:=rfl
theorem Yv (o:Op) (R S:Nat):({o with r:=R,s:=S}:Op).id=o.id:=by unfold Op.id;rw [Py]
theorem Pz (o:Op) (R S:Nat):({o with r:=R,s:=S}:Op).name=o.name:=by
 unfold Op.name;rw [Yv]
theorem Yw (l:List Pn) (p:Nat→Bool) (o:Op) (R S:Nat):Bu l p ({o with r:=R,s:=S}:Op)=Bu l p o:=rfl
theorem Fv (o:Op):∃R S,sgn o={o with r:=R,s:=S}∧Sg.check (Sg.pub (sec Bf o.by_.toNat)) o.bare R S=true:=
 ⟨_,_,rfl,Sg.takes _ _ (Ag3 (Gl _ _) (by decide))⟩
theorem Yx (o:Op):(sgn o).name=o.name:=by
 obtain ⟨R,S,h,_⟩:=Fv o;rw [h,Pz]
theorem Yy (o:Op):(sgn o).by_=o.by_:=by
 obtain ⟨R,S,h,_⟩:=Fv o;rw [h]
theorem Yz (o:Op):(sgn o).sq=o.sq:=by
 obtain ⟨R,S,h,_⟩:=Fv o;rw [h]
theorem Y3 (o:Op):(sgn o).at_=o.at_:=by
 obtain ⟨R,S,h,_⟩:=Fv o;rw [h]
theorem Y4 (o:Op):(sgn o).past=o.past:=by
 obtain ⟨R,S,h,_⟩:=Fv o;rw [h]
theorem P3 {cards:List Cd} {l:List Pn} {o:Op} {c:Cd} (h1:o.chk=0) (h2:plc l o.name=none) (h3:l.length<200) (h4:Dn cards o.by_=some c) (h5:c.s=Sg.pub (sec Bf o.by_.toNat)) (h6:o.kind≠1∨l=[])
  (h7:o.past.any (fun id=>(plc l id).isNone)=false) (h8:clash l o.past=false) (h9:late l o.past≤o.at_) (h10:Bu l (Ad l o.past) o=false):An cards l (sgn o)=0:=by
 obtain ⟨R,S,e,hc⟩:=Fv o;rw [e];unfold An;rw [Yu,Pz,h1,h2,if_neg (by simp),if_neg (by simp),if_neg (by omega)];rw [show ({o with r:=R,s:=S}:Op).by_=o.by_ from rfl,h4];dsimp only;rw [Py,h5,hc,if_neg (by simp),if_neg (by rcases h6 with h|h<;>simp [h]),h7,if_neg (by simp),h8,if_neg (by simp;omega),Yw,h10]
 simp
def Dt (b:Int):Op:={base b 1 1 0 [] [] with need:=0}
theorem Y5 {b:Int} (hb:1≤b∧b≤12):(Dt b).chk=0:=
 Tm (h:=⟨by omega,hb,by omega,by omega,⟨by simp,by simp,List.Pairwise.nil,by simp⟩,⟨by simp,by simp,.inl rfl⟩⟩) (Dh (by omega))
theorem id_lt (o:Op):o.id<FP:=by unfold FP;exact Hs.of_lt _ _
theorem Y6 {b s:Int} {u:Nat} (hb:1≤b∧b≤12) (hs:1≤s∧s≤2147483647) (hu:u<FP):(Id.mk b s u).named=true:=Tl hb hs hu
theorem P4 {o:Op} (hb:1≤o.by_∧o.by_≤12) (hs:1≤o.sq∧o.sq≤2147483647):o.name.named=true:=by
 unfold Op.name;exact Y6 hb hs (id_lt o)
end Oq
end
section
open Go.RowKit
attribute [local go_sem ↓] Go.wp_at_zero Go.wp_at_succ
namespace Oq
attribute [local go_sem ↓] Ce Ep
theorem Y7 (x:OpL) (o:Op) (h:x.op=o) (u:Nat) (hu:o.by_.toNat=u) (S:Nat) (hS:sec Bf u=S):({x with r:=Sg.r S x.op.bare,s:=Sg.s S x.op.bare}:OpL).op=sgn o:=by
 rw [Uy,h];unfold sgn;rw [hu,hS]
end Oq
end
section
open Go.RowKit Go.Sort Go.Shelf
namespace Oq
section
variable {α : Type} [Inhabited α] {enc : α → List Value} {sz : Nat} (hlen : ∀ x, (enc x).length = sz) (hsz : 0 < sz)
include hlen hsz
theorem P5 (xs:List α) {j:Nat} (hj:j<xs.length*sz):(xs.flatMap enc)[j]? =some ((flatK enc sz xs.toArray)[j]!):=by
 rw [get_flatK _ _ _ _ (by simpa using hj)];have hk:j/sz<xs.length:=Nat.div_lt_of_lt_mul (by rwa [Nat.mul_comm] at hj);have hm:j%sz<sz:=Nat.mod_lt _ hsz;have h1:xs[j/sz]? =some xs[j/sz]:=Af8 hk;have h2:=E5 (f:=enc) (size:=sz) hlen xs (j/sz) (j%sz) _ h1 hm;rw [Nat.mul_comm,Nat.div_add_mod] at h2;rw [h2];have h3:xs.toArray[j/sz]! =xs[j/sz]:=by simp [hk]
 rw [h3];have h4:j%sz<(enc xs[j/sz]).length:=by rw [hlen];exact hm
 rw [Af8 h4];simp [h4]
theorem P6 {w:World} {base c:Nat} {t:TypeId} {g:Nat} {xs:List α} (h:Own w base t sz (some ⟨g,0,none⟩) xs.length c (xs.flatMap enc)):HoldsK enc sz w g 0 xs.toArray:=by
 intro j hj;have hj':j<xs.length*sz:=by simpa using hj
 obtain ⟨cur,hb,hl,hs⟩:=Pu h (by
  rcases Nat.eq_zero_or_pos xs.length with h0|h0
  · rw [h0] at hj';simp at hj'
  · exact h0)
 have hf:=P5 hlen hsz xs hj';rw [Ag2];refine ⟨?_,hb.frozen j⟩;rw [hb.cell j,id,← hf,← hl,Ah1 hj'];simp
theorem P7 {w:World} {base c:Nat} {t:TypeId} {g:Nat} {xs ys:List α} (n:Nat) (os:Array Obj) (h:Own w base t sz (some ⟨g,0,none⟩) xs.length c (xs.flatMap enc)) (hx:0<xs.length) (hl:ys.length=xs.length):
  Own (sortWorldK enc sz w g 0 n ys.toArray os) base t sz (some ⟨g,0,none⟩) ys.length c (ys.flatMap enc):=by
 have hyl:(ys.flatMap enc).length=ys.length*sz:=E6 (f:=enc) hlen ys
 rcases h.2 with ⟨_,h0⟩|⟨g',cap,cur,hv,hb,hg,h1,h2,h3,h4⟩
 · omega
 ·
  injection hv with hA hn' hc
  injection hA with hA
  injection hA with hA
  subst hA;subst hc
  have hs:xs.length*sz≤cur.size:=by
   have h5:=congrArg Ag5 h4;rw [Ag9,Ah0,h.1] at h5;rw [← h5];exact Nat.min_le_right _ _
  have hnew:=Pv (n:=n) (os:=os) (d:=flatK enc sz ys.toArray) (show Blk w g t cur from hg);refine ⟨hyl,.inr ⟨g,c,putCells id 0 (flatK enc sz ys.toArray) cur,rfl,hb,hnew,by omega,h2,?_,?_⟩⟩
  · simpa [putCells] using h3
  ·
   rw [← hyl];exact Pw (by rw [hyl];simp) (fun j hj=>P5 hlen hsz ys (by omega)) (by rw [hyl,hl];exact hs)
end
end Oq
end
section
open Go.RowKit
attribute [local go_sem ↓] Go.wp_at_zero Go.wp_at_succ
namespace Oq
theorem Y8 (l:List Cd):∀v∈l.flatMap Cd.cells,v.oneCell'=true:=H7 _ (fun a v hv=>by simp [Cd.cells] at hv;rcases hv with rfl|rfl|rfl|rfl|rfl<;>rfl) l
end Oq
end
end Go.Proofs.YtkanjaikgphjfaaGreatDoor
namespace Go.Proofs
open Go.Shelf Go.RowKit Go.Lib Go.Sort
def Tryz.sortCards_ren:Go.Shelf.Ren:=⟨fun|6=>59|15=>67|14=>104|28=>119|29=>120|20=>141|21=>142|22=>143|23=>144|24=>145|25=>146|26=>147|27=>148|46=>184|47=>169|48=>170|49=>185|50=>186|57=>207|n=>n,fun|22=>23|24=>71|25=>116|3=>3|39=>123|0=>0|53=>178|55=>39|4=>4|46=>172|45=>171|50=>86|5=>5|9=>9|66=>219|70=>222|76=>239|77=>240|n=>n,fun|n=>n⟩
theorem Tryz.sortCards:Go.Proofs.SlLaysF0.n6 Tryz.prog Tryz.sortCards_ren:={
  mixed:=by kernel_rfl
  f6:=⟨Tryz.f59.name,by decide,Tryz.func59.trans (congrArg some (by kernel_rfl))⟩
  f14:=⟨Tryz.f104.name,by decide,Tryz.func104.trans (congrArg some (by kernel_rfl))⟩
  f15:=Tryz.func67.trans (congrArg some (by kernel_rfl))
  f20:=⟨Tryz.f141.name,by decide,Tryz.func141.trans (congrArg some (by kernel_rfl))⟩
  f21:=⟨Tryz.f142.name,by decide,Tryz.func142.trans (congrArg some (by kernel_rfl))⟩
  f22:=⟨Tryz.f143.name,by decide,Tryz.func143.trans (congrArg some (by kernel_rfl))⟩
  f23:=⟨Tryz.f144.name,by decide,Tryz.func144.trans (congrArg some (by kernel_rfl))⟩
  f24:=⟨Tryz.f145.name,by decide,Tryz.func145.trans (congrArg some (by kernel_rfl))⟩
  f25:=⟨Tryz.f146.name,by decide,Tryz.func146.trans (congrArg some (by kernel_rfl))⟩
  f26:=⟨Tryz.f147.name,by decide,Tryz.func147.trans (congrArg some (by kernel_rfl))⟩
  f27:=⟨Tryz.f148.name,by decide,Tryz.func148.trans (congrArg some (by kernel_rfl))⟩
  f28:=Tryz.func119.trans (congrArg some (by kernel_rfl))
  f29:=Tryz.func120.trans (congrArg some (by kernel_rfl))
  f46:=⟨Tryz.f184.name,by decide,Tryz.func184.trans (congrArg some (by kernel_rfl))⟩
  f47:=Tryz.func169.trans (congrArg some (by kernel_rfl))
  f48:=Tryz.func170.trans (congrArg some (by kernel_rfl))
  f49:=⟨Tryz.f185.name,by decide,Tryz.func185.trans (congrArg some (by kernel_rfl))⟩
  f50:=⟨Tryz.f186.name,by decide,Tryz.func186.trans (congrArg some (by kernel_rfl))⟩
  f57:=⟨Tryz.f207.name,by decide,Tryz.func207.trans (congrArg some (by kernel_rfl))⟩
  t0:=Tryz.underlying0
  a0:=Tryz.isAgg0
  z0:=Tryz.sizeOf0
  v0:=Tryz.zeroValue0
  t3:=Tryz.underlying3
  a3:=Tryz.isAgg3
  z3:=Tryz.sizeOf3
  v3:=Tryz.zeroValue3
  t4:=Tryz.underlying4
  a4:=Tryz.isAgg4
  z4:=Tryz.sizeOf4
  v4:=Tryz.zeroValue4
  t5:=Tryz.underlying5
  a5:=Tryz.isAgg5
  z5:=Tryz.sizeOf5
  v5:=Tryz.zeroValue5
  t9:=Tryz.underlying9
  a9:=Tryz.isAgg9
  z9:=Tryz.sizeOf9
  v9:=Tryz.zeroValue9
  t22:=Tryz.underlying23
  a22:=Tryz.isAgg23
  z22:=Tryz.sizeOf23
  v22:=Tryz.zeroValue23
  t25:=Tryz.underlying116
  a25:=Tryz.isAgg116
  z25:=Tryz.sizeOf116
  v25:=Tryz.zeroValue116
  t39:=Tryz.underlying123
  a39:=Tryz.isAgg123
  z39:=Tryz.sizeOf123
  v39:=Tryz.zeroValue123
  t45:=Tryz.underlying171
  a45:=Tryz.isAgg171
  z45:=Tryz.sizeOf171
  v45:=Tryz.zeroValue171
  t46:=Tryz.underlying172
  a46:=Tryz.isAgg172
  z46:=Tryz.sizeOf172
  v46:=Tryz.zeroValue172
  t50:=Tryz.underlying86
  a50:=Tryz.isAgg86
  z50:=Tryz.sizeOf86
  v50:=Tryz.zeroValue86
  t53:=Tryz.underlying178
  a53:=Tryz.isAgg178
  z53:=Tryz.sizeOf178
  v53:=Tryz.zeroValue178
  t55:=Tryz.underlying39
  a55:=Tryz.isAgg39
  z55:=Tryz.sizeOf39
  v55:=Tryz.zeroValue39
  t66:=Tryz.underlying219
  a66:=Tryz.isAgg219
  z66:=Tryz.sizeOf219
  v66:=Tryz.zeroValue219
  t70:=Tryz.underlying222
  a70:=Tryz.isAgg222
  z70:=Tryz.sizeOf222
  v70:=Tryz.zeroValue222
  t76:=Tryz.underlying239
  a76:=Tryz.isAgg239
  z76:=Tryz.sizeOf239
  v76:=Tryz.zeroValue239
  t77:=Tryz.underlying240
  a77:=Tryz.isAgg240
  z77:=Tryz.sizeOf240
  v77:=Tryz.zeroValue240}
end Go.Proofs
namespace Go.Proofs.YtkanjaikgphjfaaGreatDoor
section
open Go.RowKit Go.Sort Go.Shelf
attribute [local go_sem ↓] Go.wp_at_zero Go.wp_at_succ
namespace Oq
structure CdR where
 c:Cd
 lo:0≤c.d
 hi:c.d≤1000
instance:Inhabited CdR:=⟨⟨⟨0,0,0,0,0⟩,Int.le_refl _,by decide⟩⟩
def CdR.cells (x:CdR):List Value:=x.c.cells
def Gq (x y:CdR):Int:=x.c.d-y.c.d
theorem Io (x y:CdR):ltOf Gq x y=decide (x.c.d<y.c.d):=by
 unfold ltOf Gq;rw [Bool.eq_iff_iff,decide_eq_true_iff,decide_eq_true_iff];omega
theorem Y9:SWO (ltOf Gq) where
 irrefl x:=by rw [Io];simp
 trans x y z h1 h2:=by
  rw [Io,decide_eq_true_iff] at*;omega
 ntrans x y z h1 h2:=by
  rw [Io,decide_eq_false_iff_not] at*;omega
theorem Za (x y:Cd) (w:World) (hx0:0≤x.d) (hx1:x.d≤1000) (hy0:0≤y.d) (hy1:y.d≤1000):
  Calls Tryz.prog 60 #[.agg #[.int .i64 x.d,.int .i64 x.m,.int .u64 (x.l:Int),.int .u64 (x.k:Int),.int .u64 (x.s:Int)],.agg #[.int .i64 y.d,.int .i64 y.m,.int .u64 (y.l:Int),.int .u64 (y.k:Int),.int .u64 (y.s:Int)]] w fun e w'=>e=.returned (.int .i64 (x.d-y.d))∧GrowOf w w':=by
 have hf:=((GrowOf.refl w).alloc (.cells #[.int .i64 x.d,.int .i64 x.m,.int .u64 (x.l:Int),.int .u64 (x.k:Int),.int .u64 (x.s:Int)] 71)).alloc (.cells #[.int .i64 y.d,.int .i64 y.m,.int .u64 (y.l:Int),.int .u64 (y.k:Int),.int .u64 (y.s:Int)] 71);go_enter Tryz.func60,Tryz.ntmps60;go_wp2
 go_ret
 exact ⟨rfl,hf⟩
theorem Zb (blk off size:Nat) (w:World):CmpLays Tryz.prog 60 #[] CdR.cells 5 Gq blk off size w:=
 fun _ _ _ _ x y=>Za x.c y.c _ x.lo x.hi y.lo y.hi
theorem Zc (base:Nat) (A:Option Addr) (c:Nat) (xs:List CdR) (w:World) (hown:Own w base 71 5 A xs.length c (xs.flatMap CdR.cells)) (hlen:xs.length≤1000000):
  Calls Tryz.prog 59 #[.slice A xs.length c,.func (.func 60) #[] #[]] w fun e w'=>e=.returned (.tuple #[])∧
   ∃ys:List CdR,ys.Perm xs∧ys.Pairwise (fun x y=>x.c.d≤y.c.d)∧Own w' base 71 5 A ys.length c (ys.flatMap CdR.cells)∧Fr (fun k=>Ab A=some k) w w':=by
 by_cases h0:xs.length=0
 ·
  have hx:xs=[]:=Ah7 h0;subst hx;have hcon:=AnyF.slices_SortFunc_none Tryz.sortCards A c (.func (.func 60) #[] #[]) w;refine Calls.mono hcon ?_;rintro e w' ⟨rfl,rfl⟩;exact ⟨rfl,[],List.Perm.refl _,List.Pairwise.nil,hown,Fr.refl _ _⟩
 ·
  obtain ⟨g,rfl⟩:∃g,A=some ⟨g,0,none⟩:=by
   rcases hown.2 with ⟨_,hn⟩|⟨g,cap,cur,hv,_⟩
   · exact absurd hn h0
   ·
    injection hv with hA _ _
    exact ⟨g,hA⟩
  have hrow:=hown.row g rfl;have eg:∀args w,(callFunc 60 args).run Tryz.prog w=.ok (.enter 60 args) w:=enters_of Tryz.func60 (by kernel_rfl) rfl;have hcon:=AnyQ.slices_SortFunc Tryz.sortCards 5 Tryz.isAgg71 Tryz.sizeOf71 CdR.cells (fun _=>rfl) (fun x v hv=>by simp [CdR.cells,Cd.cells] at hv;rcases hv with rfl|rfl|rfl|rfl|rfl<;>rfl) Gq Y9 60 #[] g 0 c xs.toArray w eg (Zb g 0 _ w) (P6 (enc:=CdR.cells) (fun _=>rfl) (by decide) hown) hrow.2 (by simp;omega)
  refine Calls.mono hcon ?_;rintro e w' ⟨rfl,d',n,os,hp,hs,rfl⟩;have hds:d'.size=xs.length:=by rw [hp.1];simp
  have hperm:d'.toList.Perm xs:=by
   have h1:=hp.2.2
   have e1:d'.extract 0 xs.toArray.size=d':=by
    rw [show xs.toArray.size=d'.size from hp.1.symm];simp
   have e2:xs.toArray.extract 0 xs.toArray.size=xs.toArray:=by simp
   rw [e1,e2] at h1;simpa using h1
  refine ⟨rfl,d'.toList,hperm,?_,?_,?_⟩
  ·
   rw [List.pairwise_iff_getElem];intro i j hi hj hij;have h1:=hs i j (Ah3 _) hij (by rw [← hp.1];simpa using hj);rw [Io] at h1;have hi':i<d'.size:=by simpa using hi
   have hj':j<d'.size:=by simpa using hj
   rw [getElem!_pos d' i hi',getElem!_pos d' j hj',decide_eq_false_iff_not] at h1;have h2:d'.toList[i]=d'[i]:=by simp
   have h3:d'.toList[j]=d'[j]:=by simp
   rw [h2,h3];omega
  ·
   have h1:=P7 (enc:=CdR.cells) (sz:=5) (fun _=>rfl) (by decide) (ys:=d'.toList) n os hown (by omega) (by simpa using hds);simpa using h1
  · exact (Kn w g n _ os).mono (fun k hk e=>by have e':k=g:=e;subst e';rfl)
theorem Zd {xs ys:List CdR} (hp:ys.Perm xs) (hs:ys.Pairwise (fun x y=>x.c.d≤y.c.d)) (hx:xs.Pairwise (fun x y=>x.c.d<y.c.d)):ys=xs:=by
 induction xs generalizing ys with
 |nil=>exact List.Perm.eq_nil hp
 |cons x r ih=>
  cases ys with
  |nil=>exact absurd hp.length_eq (by simp)
  |cons y q=>
   rw [List.pairwise_cons] at hs hx
   have hxy:y=x:=by
    have hy:y∈x::r:=hp.subset (by simp)
    rcases List.mem_cons.1 hy with h|h
    · exact h
    ·
     have h1:=hx.1 y h;have hx':x∈y::q:=hp.symm.subset (by simp)
     rcases List.mem_cons.1 hx' with h2|h2
     · exact h2.symm
     ·
      have h3:=hs.1 x h2;omega
   subst hxy;rw [ih (List.perm_cons y|>.1 hp) hs.2 hx.2]
end Oq
end
section
open Go.RowKit
attribute [local go_sem ↓] Go.wp_at_zero Go.wp_at_succ
namespace Oq
def Ip (cards:List Cd) (w:World) (e:Ending) (w':World):Prop:=
 ∃g:Gph,e=.returned (.pointer (some ⟨g.gb,0,none⟩))∧GAt w' w.heap.size g∧g.nodes=[]∧g.cards=cards∧Fr Non w w'
theorem Kp (l:List CdR):l.flatMap CdR.cells=(l.map CdR.c).flatMap Cd.cells:=by
 rw [List.flatMap_map];rfl
theorem Ze (B c:Nat) (A:Option Addr) (l:List CdR) (w:World) (hr:Rd w B 5 A l.length (l.flatMap CdR.cells)) (hs:l.Pairwise (fun x y=>x.c.d<y.c.d)) (hlen:l.length≤1000000) (hpos:0<w.heap.size) (hcs:∀x∈l,x.c.s<18446744073709551616):
  Calls Tryz.prog 33 #[.slice A l.length c] w (Ip (l.map CdR.c) w):=by
 have kc:=Lib.hid (Vn B l.length c A _ w hr (by rw [Kp];exact Y8 _) hlen)
 have ab:Hid (∀(A1:Option Addr) (c1:Nat) (w1 w4:World),Fr Non w w1→Own w4 w.heap.size 71 5 A1 l.length c1 (l.flatMap CdR.cells)→
   Fr (fun k=>Ab A1=some k) ((w1.alloc (.map #[] 0)).alloc (.cells #[.slice A1 l.length c1,.map (some w1.heap.size),.slice none 0 0] 94)) w4→(∀k,Ab A1=some k→w.heap.size≤k∧k<w1.heap.size)→
   Ip (l.map CdR.c) w (.returned (.pointer (some ⟨w1.heap.size+1,0,none⟩))) w4):=by
  intro A1 c1 w1 w4 f1 o4 f4 aa;have ag:¬Ab A1=some w1.heap.size:=fun e=>by have:=(aa _ e).2;omega
  have ai:¬Ab A1=some (w1.heap.size+1):=fun e=>by have:=(aa _ e).2;omega
  have bg:=Blk.new (w1.alloc (.map #[] 0)) 94 #[.slice A1 l.length c1,.map (some w1.heap.size),.slice none 0 0];rw [Ah2] at bg;have hm:=((MapAt.made w1).fr ((Fr.refl Non _).alloc (.cells #[.slice A1 l.length c1,.map (some w1.heap.size),.slice none 0 0] 94)) zq).fr f4 ag;have sz:=f1.size;refine ⟨⟨w1.heap.size+1,w1.heap.size,0,A1,c1,l.map CdR.c,none,0,[]⟩,rfl,?_,rfl,rfl,?_⟩
  ·
   refine ⟨?_,hpos,by show _≤w1.heap.size+1;omega,sz,?_,Own.nil _ _ _ _,Ah3 _,Ah3 _,(fun n hn=>absurd hn (Ai0)),?_,?_,hm,fun n hn=>absurd hn (Ai0)⟩
   ·
    have h1:=bg.fr f4 ai;show Blk w4 (w1.heap.size+1) 94 #[.slice A1 (l.map CdR.c).length c1,.map (some w1.heap.size),.slice none 0 0];rw [Ag1];exact h1
   ·
    show Own w4 w.heap.size 71 5 A1 (l.map CdR.c).length c1 ((l.map CdR.c).flatMap Cd.cells);rw [Ag1,← Kp];exact o4
   ·
    show (l.map CdR.c).length≤1000000;rw [Ag1];exact hlen
   ·
    intro c hc;obtain ⟨x,hx,rfl⟩:=List.mem_map.1 hc;exact hcs x hx
  · exact ((f1.alloc _).alloc _).trans f4 (fun k hk e=>absurd hk (by have:=(aa k e).1;omega))
 generalize Ip (l.map CdR.c) w=POST at*;have ks:=Lib.hid (fun (A1:Option Addr) (c1:Nat) (w3:World) (o:Own w3 w.heap.size 71 5 A1 l.length c1 (l.flatMap CdR.cells))=>Zc w.heap.size A1 c1 l w3 o hlen);have ac:=Lib.hid (fun (ys:List CdR) (hp:ys.Perm l) (hq:ys.Pairwise (fun x y=>x.c.d≤y.c.d))=>Zd hp hq hs);clear hr hs hcs;go_enter Tryz.func33,Tryz.ntmps33;go_wp2_with (fail);refine (kc.out).mono ?_;rintro _ w1 ⟨A1,c1,rfl,o1,f1⟩;have aa:=o1.row;have bg:=Blk.new (w1.alloc (.map #[] 0)) 94 #[.slice A1 l.length c1,.map (some w1.heap.size),.slice none 0 0];rw [Ah2] at bg;have o3:=(o1.alloc (.map #[] 0)).alloc (.cells #[.slice A1 l.length c1,.map (some w1.heap.size),.slice none 0 0] 94);have g0:((w1.alloc (.map #[] 0)).alloc (.cells #[.slice A1 l.length c1,.map (some w1.heap.size),.slice none 0 0] 94)).cell? ⟨w1.heap.size+1,0,none⟩=some (.slice A1 l.length c1):=bg.cell 0;have kq:=Lib.hid (ks.out A1 c1 _ o3);have hp:=Lib.hid (fun (w4:World) o f=>ab.out A1 c1 w1 w4 f1 o f aa);have ah:=Lib.hid f1;clear kc ks ab o1 o3 aa f1 bg;have aj:=@run_makeMap Tryz.prog;go_wp2_with (fail);refine (kq.out).mono ?_;rintro _ w4 ⟨rfl,ys,ad,ae,o4,f4⟩;obtain rfl:=ac.out ys ad ae;have af:=Lib.hid (hp.out w4 o4 f4);clear kq hp ac o4 f4 ad ae ah g0;go_wp2_with (fail);exact af.out
theorem Zf (n:Nat):Sg.pub n<18446744073709551616:=Ag3 (Fd.pow_lt _ _) (by decide)
theorem cd_d (d m:Int) (l k s:Nat):(Cd.mk d m l k s).d=d:=rfl
theorem cd_s' (d m:Int) (l k s:Nat):(Cd.mk d m l k s).s=s:=rfl
theorem C5 (k:Nat) (m:Int):(Bt k m).d=(k:Int)+1:=cd_d _ _ _ _ _
theorem Gr (k:Nat) (m:Int):(Bt k m).s=Sg.pub (sec Bf (k+1)):=cd_s' _ _ _ _ _
theorem Kq:∀(l:List Int) (i:Nat),i+l.length≤1000→∃xs:List CdR,xs.map CdR.c=Av i l∧xs.Pairwise (fun x y=>x.c.d<y.c.d)∧(∀x∈xs,(i:Int)<x.c.d)∧∀x∈xs,x.c.s<18446744073709551616
 |[],i,_=>⟨[],rfl,List.Pairwise.nil,by simp,by simp⟩
 |m::r,i,h=>by
  have h':i+1+r.length≤1000:=by rw [List.length_cons] at h;omega
  have hi:i+1≤1000:=by omega
  obtain ⟨xs,h1,h2,h3,h4⟩:=Kq r (i+1) h';refine ⟨⟨Bt i m,by rw [C5];omega,by rw [C5];omega⟩::xs,?_,?_,?_,?_⟩
  ·
   show Bt i m::xs.map CdR.c=Bt i m::Av (i+1) r;rw [h1]
  ·
   refine List.pairwise_cons.2 ⟨fun x hx=> ?_,h2⟩;show (Bt i m).d<x.c.d;rw [C5];have:=h3 x hx;omega
  ·
   intro x hx
   rcases List.mem_cons.1 hx with rfl|hx
   ·
    show (i:Int)<(Bt i m).d;rw [C5];omega
   ·
    have:=h3 x hx;omega
  ·
   intro x hx
   rcases List.mem_cons.1 hx with rfl|hx
   ·
    show (Bt i m).s<_;rw [Gr];exact Zf _
   · exact h4 x hx
theorem Zg (B n c:Nat) (A:Option Addr) (l:List Int) (w:World) (hn:Hid (l.length=n)) (hnm:n≤1000) (hr:Rd w B 5 A n ((Av 0 l).flatMap Cd.cells)) (hpos:0<w.heap.size):
  Calls Tryz.prog 33 #[.slice A n c] w (Ip (Av 0 l) w):=by
 obtain ⟨xs,h1,h2,_,h4⟩:=Kq l 0 (by rw [hn.out];omega)
 have hl:xs.length=n:=by
  have:=congrArg Ag5 h1;rw [Ag1,Oc,hn.out] at this;exact this
 rw [← h1] at hr ⊢;rw [← hl] at hr ⊢;rw [← Kp] at hr;exact Ze B c A xs w hr h2 (by omega) hpos h4
theorem GAt.ge {w:World} {base:Nat} {g:Gph} (h:GAt w base g) {k:Nat} (hk:g.own k):base≤k:=by
 rcases hk with e|e|e
 · rw [e];exact h.gbase
 · rw [e];exact h.mbase
 · exact (h.own.row k e).1
theorem KindsAt.own {w w':World} {base:Nat} {g:Gph} (h:KindsAt w) (hg:GAt w base g) (hf:Fr g.own w w'):KindsAt w':=fun k hk=>hf.cell (h k hk) (fun e=>by have h1:=hg.ge e;have h2:=hg.pos;have h3:base≤0:=h1;omega)
def Hw (base:Nat) (g:Gph) (l:List Pn) (w:World) (e:Ending) (w':World):Prop:=
 e=.returned (.int .i64 0)∧∃g':Gph,GAt w' base g'∧g'.gb=g.gb∧g'.cards=g.cards∧g'.pns=l∧Fr g.own w w'
theorem Zh {base:Nat} {g:Gph} {x:OpL} {w:World} {l:List Pn} {p:Pn} (hl:g.pns=l) (hg:GAt w base g) (hat:x.at w w.heap.size) (hok:x.op.ok) (hkn:KindsAt w) (he:An g.cards l x.op=0) (hp:Aq l x.op=p):
  Calls Tryz.prog 34 #[.pointer (some ⟨g.gb,0,none⟩),.agg x.cells] w (Hw base g (l++[p]) w):=by
 subst hl;refine (Ju base g x w hg hat hok hkn).mono ?_;rintro e w' ⟨rfl,h⟩
 rcases h with ⟨h0,_⟩|⟨_,g',h1,h2,_,h4,h5,h6,_⟩
 · exact absurd he h0
 ·
  refine ⟨by rw [he],g',h1,h2,h4,?_,h6⟩;rw [h5,hp]
theorem Zi {o:Op} (h:o.ok):(sgn o).ok:=by
 have h1:Sg.r (sec Bf o.by_.toNat) o.bare<18446744073709551616:=Ag3 (Sg.r_lt _ _) (by decide);have h2:Sg.s (sec Bf o.by_.toNat) o.bare<18446744073709551616:=Ag3 (Sg.s_lt _ _) (by decide);unfold sgn;generalize Sg.r (sec Bf o.by_.toNat) o.bare=R at*;generalize Sg.s (sec Bf o.by_.toNat) o.bare=S at*;exact {h with r:=h1,s:=h2}
end Oq
namespace Oq
attribute [local go_sem ↓] Ce Ep
attribute [local go_sem] Af9 Ag0
theorem Rows.step {cards:List Cd} {l:List Pn} (h:Rows cards l) {i:Nat} {n:Pn} (hi:l[i]? =some n):An cards (l.take i) n.o=0∧Aq (l.take i) n.o=n:=by
 induction h with
 |nil=>simp at hi
 |snoc l o hl ho ih=>
  rcases Nat.lt_or_ge i l.length with hlt|hge
  ·
   rw [List.getElem?_append_left hlt] at hi;rw [List.take_append_of_le_length (Ag4 hlt)];exact ih hi
  ·
   have e:i=l.length:=by
    have:=(List.getElem?_eq_some_iff.1 hi).1;rw [List.length_append,List.length_singleton] at this;omega
   subst e;rw [List.getElem?_append_right (Nat.le_refl _),Nat.sub_self] at hi;injection hi with hi
   subst hi;rw [List.take_left']
   · exact ⟨ho,rfl⟩
   · rfl
end Oq
end
section
open Go.RowKit
namespace Oq
def bef (l:List Pn) (a b:Id):Bool:=match plc l a,plc l b with|some i,some j=>(l[j]?.map (fun n=>n.ps i)).getD false|_,_=>false
theorem bef_iff {l:List Pn} {a b:Id}:bef l a b=true↔∃i j m,plc l a=some i∧plc l b=some j∧l[j]? =some m∧m.ps i=true:=by
 unfold bef;constructor
 ·
  intro h
  split at h
  ·
   rename_i i j hi hj;obtain ⟨m,hm,_⟩:=Bm hj;rw [hm] at h;exact ⟨i,j,m,hi,hj,hm,h⟩
  · cases h
 ·
  rintro ⟨i,j,m,h1,h2,h3,h4⟩;rw [h1,h2];dsimp only;rw [h3];exact h4
theorem Gph.before_eq (g:Gph) (a b:Id):g.before a b=bef g.pns a b:=by
 unfold Gph.before bef Gph.pns;rw [Fb,Fb]
 split
 ·
  rename_i i j hi hj;rw [hi,hj];dsimp only;rw [Ag6,Option.map_map];rfl
 ·
  rename_i h
  split
  ·
   rename_i i j hi hj;exact absurd hj (h i j hi)
  · rfl
theorem Rows.named {cards:List Cd} {l:List Pn} (h:Rows cards l) {ids:List Id} (hp:ids.Perm (l.map Pn.id)) {a:Id} (ha:a∈ids):∃p n,plc l a=some p∧l[p]? =some n∧n.id=a:=by
 obtain ⟨n,hn,rfl⟩:=List.mem_map.1 (hp.mem_iff.1 ha);obtain ⟨p,hp⟩:=List.getElem?_of_mem hn;exact ⟨p,n,(h.ok p n hp).plc,hp,rfl⟩
theorem Rows.order {cards:List Cd} {l:List Pn} (h:Rows cards l) {a b:Id} (hab:bef l a b=true):
  a≠b∧bef l b a=false∧Az l a<Az l b∧Bo l a≤Bo l b∧∀c,bef l b c=true→bef l a c=true:=by
 obtain ⟨i,j,m,hi,hj,hm,hp⟩:=bef_iff.1 hab;have hlt:=(h.ok j m hm).lt i hp;obtain ⟨n,hn,_⟩:=Bm hi;refine ⟨?_,?_,?_,?_,?_⟩
 ·
  rintro rfl;rw [hi] at hj;injection hj with e
  omega
 ·
  cases hb:bef l b a with
  |false=>rfl
  |true=>
   obtain ⟨i',j',m',h1,h2,h3,h4⟩:=bef_iff.1 hb;rw [hj] at h1;rw [hi] at h2;injection h1 with e1
   injection h2 with e2
   subst e1 e2;have:=(h.ok _ m' h3).lt _ h4;omega
 ·
  rw [Gm hi hn,Gm hj hm];exact h.lev_lt j hm hp hn
 ·
  rw [Fc hi hn,Fc hj hm];exact h.at_le j hm hp hn
 ·
  intro c hc;obtain ⟨i',k,q,h1,h2,h3,h4⟩:=bef_iff.1 hc;rw [hj] at h1;injection h1 with e1
  subst e1;exact bef_iff.2 ⟨i,k,q,hi,h2,h3,h.trans k h3 h4 hm hp⟩
end Oq
end
section
open Go.RowKit
attribute [local go_sem ↓] Go.wp_at_zero Go.wp_at_succ
namespace Oq
attribute [local go_sem ↓] Et
end Oq
namespace Oq
attribute [local go_sem] Af9 Ag0
attribute [local go_sem ↓] Et
end Oq
end
end Go.Proofs.YtkanjaikgphjfaaGreatDoor
