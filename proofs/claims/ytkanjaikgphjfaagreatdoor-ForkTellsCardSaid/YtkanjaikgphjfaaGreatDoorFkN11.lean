/-
  Contracts of the functions that the claim's statement reaches, walked one by one (part 11).
  Conditions: as each theorem says.
-/
import Derived.Shelf.SlSortCmp.NoneTotal
import Derived.Shelf.SlSortCmp.WholeK
import Derived.Ground.SlsfProg
import Derived.Ground.NamesProg
import Derived.Shelf.SlGeneric
import Derived.ChangeKeysEq
import Derived.Great.BuildSlice
import Derived.Test.YtkanjaikgphjfaaGreatDoorFkN1
import Derived.Test.YtkanjaikgphjfaaGreatDoorFkN2
import Derived.Test.YtkanjaikgphjfaaGreatDoorFkN3
import Derived.Test.YtkanjaikgphjfaaGreatDoorFkN4
import Derived.Test.YtkanjaikgphjfaaGreatDoorFkN6
import Derived.Test.YtkanjaikgphjfaaGreatDoorFkN7
import Derived.Test.YtkanjaikgphjfaaGreatDoorFkN10
import Derived.Test.YtkanjaikgphjfaaGreatDoorFkN19
set_option maxRecDepth 100000
set_option maxHeartbeats 16000000
open Array renaming length_toList→Ao0,getElem?_append_left→Ao8,getElem?_modify→Ao9
open Bool renaming not_false→Am9,not_true→An0,eq_false_or_eq_true→Ao5,and_eq_true→Ao6
open List renaming getElem?_eq_getElem→Am8,length_map→An1,getElem?_map→An4,length→An6,mem_of_getElem?→An7,length_take→An9,getElem?_take_of_lt→Ao1,any_eq_false→Ao4,eq_nil_of_length_eq_zero→Ao7,not_mem_nil→Ap0
open Nat renaming zero_add→An2,lt_trans→An3,le_of_lt→An5,ne_of_lt→An8,zero_le→Ao3
open Go.World renaming size_alloc→Ao2
namespace Go.Proofs.YtkanjaikgphjfaaGreatDoor
namespace Oq
end Oq
section
open Go.RowKit
attribute [local go_sem ↓] Go.wp_at_zero Go.wp_at_succ
namespace Oq
theorem Zq {G P:Prop} (h:P→G) (hp:P):G:=h hp
theorem Jd {c:Prop} [Decidable c] {A B:Prop} (h:c) (ha:A):if c then A else B:=by rw [if_pos h];exact ha
def bdS (t:TypeId) (parts:Array (Nat × Value)):=Instr.build t parts
theorem Ri (p:Array (Nat × Value)):Instr.build 98 p=bdS 98 p:=rfl
theorem Zr {P:Program} (w:World) (t:TypeId) (parts:Array (Nat × Value)) (cells:Array Value) (h:P.built t parts.toList=some cells):(bdS t parts).run P w=.ok (.agg cells) w:=run_build w t parts cells h
attribute [local go_sem ↓] Cg I4 I5 Ri
attribute [local go_sem] Am9 An0
def AddPost (base:Nat) (g:Gph) (o:Op) (w:World) (e:Ending) (w':World):Prop:=
 e=.returned (.int .i64 (Ar g.cards g.pns o))∧
 ((Ar g.cards g.pns o≠0∧Fr Non w w')∨(Ar g.cards g.pns o=0∧∃g':Gph,GAt w' base g'∧g'.gb=g.gb∧g'.mb=g.mb∧g'.cards=g.cards∧g'.pns=g.pns++[As g.pns o]∧Fr g.own w w'∧(∀k,k<w.heap.size→g'.own k→g.own k)∧∃n:Ah,g'.nodes=g.nodes++[n]∧n.x.own w' w.heap.size))
theorem AddPost.bad {base:Nat} {g:Gph} {o:Op} {w w':World} {err:Int} (h:Ar g.cards g.pns o=err) (h0:err≠0) (hf:Fr Non w w'):AddPost base g o w (.returned (.int .i64 err)) w':=by
 subst h;exact ⟨rfl,.inl ⟨h0,hf⟩⟩
theorem Zs (y:OpL) (b s:Int) (u:Nat):Tryz.prog.built 98 [(0,.agg y.cells),(1,.agg #[.int .i64 b,.int .i64 s,.int .u64 (u:Int)]),(3,.int .i64 1)]=some (⟨y,⟨b,s,u⟩,0,0,0,0,1⟩:Ah).cells.toArray:=by kernel_rfl
structure Lr (w w':World) (base:Nat) (g:Gph) (x y:OpL) (gn:Nat):Prop where
 hg:GAt w base g
 hat:x.at w w.heap.size
 hok:x.op.ok
 bx:Blk w' w.heap.size 67 x.cells
 bn:Blk w' gn 98 (⟨y,x.op.name,0,0,0,0,1⟩:Ah).cells.toArray
 gn:w.heap.size<gn
 yop:y.op=x.op
 yown:y.own w' w.heap.size
 fr:Fr Non w w'
 chk:x.op.chk=0
 few:g.nodes.length<200
 all:x.past.any (fun id=>(plc g.pns id).isNone)=false
 new:plc g.pns x.op.name=none
 err:Ar g.cards g.pns x.op=if clash g.pns x.op.past=true∨x.op.at_<late g.pns x.op.past then 6 else if B4 g.pns (Ai g.pns x.op.past) x.op=true then 11 else 0
section
variable {cards : List Cd} {l : List Pn} {o : Op}
theorem Zt (h:o.chk≠0):Ar cards l o=o.chk:=by unfold Ar;rw [if_pos h]
theorem Zu (h:o.chk=0) (h2:(plc l o.name).isSome=true):Ar cards l o=5:=by unfold Ar;rw [h,if_neg (by simp),if_pos h2]
theorem Zv (h:o.chk=0) (h2:plc l o.name=none) (h3:200≤l.length):Ar cards l o=3:=by unfold Ar;rw [h,h2,if_neg (by simp),if_neg (by simp),if_pos h3]
theorem Zw (h:o.chk=0) (h2:plc l o.name=none) (h3:l.length<200):Ar cards l o=match Cw cards o.by_ with
  |none=>17
  |some c=>
   if Sg.check c.s o.bare o.r o.s=false then 12
   else if o.kind=1∧l≠[] then 1
   else if o.past.any (fun id=>(plc l id).isNone)=true then 10
   else if clash l o.past=true∨o.at_<late l o.past then 6
   else if B4 l (Ai l o.past) o=true then 11
   else 0:=by unfold Ar;rw [h,h2,if_neg (by simp),if_neg (by simp),if_neg (by omega)];rfl
end
theorem Ls (o:Op):U64 o.id:=by
 have h:o.id<2305843009213693951:=Hs.of_lt _ _;exact An3 h (by decide)
theorem Zx (g:Gph) (l:List Id):(l.filter (fun id=> !(Ag g.nodes id).isSome)).length=0↔l.any (fun id=>(plc g.pns id).isNone)=false:=by
 rw [List.length_eq_zero_iff,List.filter_eq_nil_iff,Ao4]
 have h:∀id,(plc g.pns id).isNone=!(Ag g.nodes id).isSome:=by
  intro id;show (plc (g.nodes.map Ah.pn) id).isNone=_;rw [Fc]
  cases Ag g.nodes id<;>rfl
 constructor
 ·
  intro h1 id hid;rw [h];exact h1 id hid
 ·
  intro h1 id hid;have:=h1 id hid;rwa [h] at this
structure AddS0 (w w':World) (base:Nat) (g:Gph) (x y:OpL) (gn ui:Nat):Prop where
 hg:GAt w base g
 hat:x.at w w.heap.size
 hok:x.op.ok
 chk:x.op.chk=0
 id:x.op.id=ui
 bx:Blk w' w.heap.size 67 x.cells
 bn:Blk w' gn 98 (⟨y,⟨x.by_,x.sq,ui⟩,0,0,0,0,1⟩:Ah).cells.toArray
 gn:w.heap.size<gn
 yop:y.op=x.op
 yown:y.own w' w.heap.size
 fr:Fr Non w w'
def addA:PSigma (fun P:Prop=>PLift P→∀(base:Nat) (g:Gph) (x:OpL) (w:World),GAt w base g→x.at w w.heap.size→x.op.ok→KindsAt w→Calls Tryz.prog 34 #[.pointer (some ⟨g.gb,0,none⟩),.agg x.cells] w (AddPost base g x.op w)):=PSigma.mk _ (by
 intro hP base g x w hg hat hok hkn;have hi:(Tryz.prog.info? 67).map (·.size)=some 27:=by kernel_rfl
 have bj:(Tryz.prog.info? 98).map (·.size)=some 35:=by kernel_rfl
 have au:x.past.length≤1000000:=by have h:=hok.past.1;rw [show x.op.past=x.past from rfl] at h;omega
 have f0:Fr Non w (w.alloc (.cells x.cells 67)):=(Fr.refl Non w).alloc _;have bq:=Blk.new w 67 x.cells;have b0:=Bi (P:=Tryz.prog) w.heap.size 67 Tryz.underlying67 rfl (cs:=x.cells) hi;have ai:=Lib.hid (fun w' (h:Fr Non w w')=>Le x w' (OpL.frame hat h) hok (hkn.fr h));have bo:=Lib.hid (fun w' (h:x.at w' w'.heap.size)=>Qh x w' h hok);have a2:=Lib.hid (fun w' (h:x.at w' w'.heap.size)=>Wa x w' h hok);have bu:=Lib.hid (fun w' (h:Fr Non w w')=>Ks base g x.by_ w' (hg.fr h) hg.cfew);have bt:=Lib.hid (fun (c:Cd) (hc:c.s<18446744073709551616) w' (h:x.at w' w'.heap.size)=>Lg c.d c.m c.l c.k c.s x w' h hok hc);have bv:=Lib.hid (fun w' (h:Fr Non w w')=>Qk base g x w' Qp (hg.fr h) (OpL.frame hat h) (fun id hid=>hok.past.2 id hid) au);have bk:=Lib.hid (fun (y:OpL) (ui:Nat) (w':World)=>Zr (P:=Tryz.prog) w' 98 #[(0,.agg y.cells),(1,.agg #[.int .i64 x.by_,.int .i64 x.sq,.int .u64 (ui:Int)]),(3,.int .i64 1)] _ (Zs y x.by_ x.sq ui));have a1:=Lib.hid (fun (err:Int) (w':World) (h:Ar g.cards g.pns x.op=err) (h0:err≠0) (hf:Fr Non w w')=>AddPost.bad (base:=base) h h0 hf);have a4:=Ls x.op;obtain ⟨ui,bi⟩:=Ab x.op.id
 have ax:Hid (x.op.name=⟨x.by_,x.sq,ui⟩):=by
  show _=_;unfold Op.name;rw [bi.out];rfl
 have bp:Hid (plc g.pns x.op.name=Ag g.nodes ⟨x.by_,x.sq,ui⟩):=by
  show _=_;rw [ax.out];exact Fc _ _
 rw [bi.out] at a4;have be:(Id.mk x.by_ x.sq ui).ok:=⟨hok.by_,hok.sq,a4⟩;obtain ⟨CX,a7⟩:=Ab x.cells;have e0:Hid (CX[0]? =some (.int .i64 x.by_)):=by show _=_;rw [← a7.out];rfl
 have e2:Hid (CX[2]? =some (.int .i64 x.kind)):=by show _=_;rw [← a7.out];rfl
 rw [a7.out] at f0 bq b0 ai bo a2 bt bv ⊢;have b6:=Lib.hid hg;have bf:=Lib.hid hok;have bs:=Lib.hid hat;unfold Rf at ai;unfold Lc at a2;unfold G9 at bu;unfold Ad at bt;obtain ⟨EC,bg⟩:=Ab x.op.chk;rw [bg.out] at ai;rw [bi.out] at a2;have ba:Hid (∀e w',AddPost base g x.op w e w'→AddPost base g x.op w e w'):=fun _ _ h=>h;clear hkn hok;go_enter Tryz.func34,Tryz.ntmps34;go_upto_region 1 with (fail)
 generalize w.alloc (.cells CX 67)=w0 at*;go_wp2_with (fail);refine (ai.out _ f0).mono ?_;rintro _ w1 ⟨rfl,f1⟩;have bx:=bq.fr f1 zq;have al:=f0.trans f1 zr;clear bq f0 f1 ai
 by_cases hc0:EC=0
 case neg=>
  have hb:(EC !=0)=true:=by simpa using hc0
  have bd:=Lib.hid (a1.out EC w1 ((Zt (by rw [bg.out];exact hc0)).trans bg.out) hc0 al);clear hc0 a1 hP;go_wp2_with (fail)
  go_ret
  exact bd.out
 case pos=>
  subst hc0;go_upto_region 4 with (fail)
  obtain ⟨wd,bh⟩:=Ab w1.drew;have ar:Blk wd w.heap.size 67 CX:=by rw [← bh.out];exact bx.drew
  have a8:Fr Non w wd:=by rw [← bh.out];exact al.drew
  have bl:x.at wd wd.heap.size:=OpL.frame hat a8;have b2:w.heap.size<wd.heap.size:=ar.lt;apply Zq
  case h=>
   intro bd;refine wp_region_held_drew (S:=fun w'=>Blk w' w.heap.size 67 CX) (by kernel_rfl) (by rw [bh.out];exact ar) (fun _=> ?_);rw [bh.out];refine wpAnyH_take (i:=0) (v:=?_) rfl (by kernel_rfl) (by kernel_rfl) (by kernel_rfl) (fun _ _ _ h=>h) (Or.inl ⟨by kernel_rfl,?_⟩) ar ?_;rotate_left
   focus (intro w' ao;have b1:=ao;(try dsimp only at b1);go_simp;(try with_reducible rfl))
   try simp only [Ae,List.set]
   refine wpAnyH_take (i:=2) (v:=?_) rfl (by kernel_rfl) (by kernel_rfl) (by kernel_rfl) (fun _ _ _ h=>h) (Or.inl ⟨by kernel_rfl,?_⟩) ar ?_;rotate_left
   focus (intro w' ao;have b1:=ao;(try dsimp only at b1);go_simp;(try with_reducible rfl))
   try simp only [Ae,List.set]
   refine wpAnyH_ready (rs:=[1,5]) (by kernel_rfl) (by simp) ?_;refine AllReadyH.cons rfl (fun K hK=> ?_) ?_
   ·
    refine Jd (by kernel_rfl) ?_;go_simp;go_wp2_with (go_at_call 47;(with_reducible refine (bo.out _ bl).mono ?_);rintro _ u1 ⟨y,rfl,af,ag,f1⟩);have a5:=ar.fr f1 zq;have a6:=OpL.frame bl f1;have al:=a8.trans f1 zr;refine hK.out _ _ a5 (fun _=> ?_);clear hK K;try simp only [Ae,List.set]
    refine wpAnyH_ready (rs:=[3,5]) (by kernel_rfl) (by simp) ?_;refine AllReadyH.cons rfl (fun K hK=> ?_) ?_
    ·
     refine Jd (by kernel_rfl) ?_;go_simp;go_wp2_with (go_at_call 62;(with_reducible refine (a2.out _ a6).mono ?_);rintro _ u2 ⟨rfl,f2⟩);have ak:=a5.fr f2 zq;have a3:=OpL.frame a6 f2;have a9:=al.trans f2 zr;refine hK.out _ _ ak (fun _=> ?_);clear hK K;try simp only [Ae,List.set]
     have bb:=fun w'=>bk.out y ui w';refine wpAnyH_take (i:=4) (v:=?_) rfl (by kernel_rfl) (by kernel_rfl) (by kernel_rfl) (fun _ _ _ h=>h) (Or.inl ⟨by kernel_rfl,?_⟩) ak ?_;rotate_left
     focus (intro w' ao;have b1:=ao;(try dsimp only at b1);go_simp;(try with_reducible rfl))
     try simp only [Ae,List.set]
     clear bb;refine Cu 5 (by kernel_rfl) rfl (by kernel_rfl) (fun K hK=> ?_);go_simp;have b4:=Blk.new u2 98 zN;have bm:Fr Non u2 (u2.alloc (.cells zN 98)):=(Fr.refl Non _).alloc _;have aj:=ak.fr bm zq;have bw:=OpL.frame a3 bm;have bc:=a9.trans bm zr;refine hK.out _ _ aj (fun _=> ?_);clear hK K;try simp only [Ae,List.set]
     have bz:=b4;have aw:w.heap.size≤u2.heap.size:=a9.size;have ap:w.heap.size≠u2.heap.size:=An8 ak.lt;have yo:=(ag.non f2).non bm;have ac:w.heap.size≤wd.heap.size:=a8.size;refine Cu 6 (by kernel_rfl) rfl (by kernel_rfl) (fun K hK=> ?_);have aa:=I6 (⟨y,⟨x.by_,x.sq,ui⟩,0,0,0,0,1⟩:Ah);obtain ⟨NC,ae⟩:=Ab (⟨y,⟨x.by_,x.sq,ui⟩,0,0,0,0,1⟩:Ah).cells.toArray;have ad:(Tryz.prog.info? 98).map (·.size)=some NC.size:=by rw [← ae.out];exact bj
     have ab:NC.size=35:=by rw [← ae.out];rfl
     rw [ae.out] at aa ⊢;refine H6 98 (.tmp 6) (.tmp 32) (g:=u2.heap.size) (cs:=NC) rfl rfl (by rfl) (by rfl) bz ad ab.symm aa ?_;have aq:w.heap.size≠u2.heap.size:=ap;have ah:=aj.setRow_far (cs:=NC) aq;have ay:=bz.setRow (cs:=NC);have az:=bc.setRow (g:=u2.heap.size) (fun h=>absurd h (Nat.not_lt.2 aw)) NC;have a0:=(yo.keepP ((Fr.refl (One (u2.heap.size)) (u2.alloc (.cells zN 98))).setRow (g:=u2.heap.size) (fun _=>rfl) NC) (Types.one bz) (by decide) (by decide) (by decide) (by decide) (by decide) (by decide) (by decide)).lower ac;have av:w.heap.size<u2.heap.size:=by omega
     refine hK.out _ _ ah (fun hzz=> ?_);clear hK K hzz;refine oD ?_;go_simp;clear aq aa bz aw ap ac yo ag ad ab;revert a0 az ay ah af av;generalize (u2.alloc (.cells zN 98)).setRow (u2.heap.size) NC=wF;generalize u2.heap.size=gs;rw [← ae.out];clear ae NC;revert wF gs y;exact bd
    refine AllReadyH.cons rfl (fun K hK=> ?_) AllReadyH.nil
    ·
     refine Jd (by kernel_rfl) ?_;go_simp;have b5:=Blk.new u1 98 zN;have bn:Fr Non u1 (u1.alloc (.cells zN 98)):=(Fr.refl Non _).alloc _;have ak:=a5.fr bn zq;have a3:=OpL.frame a6 bn;have a9:=al.trans bn zr;refine hK.out _ _ ak (fun _=> ?_);clear hK K;try simp only [Ae,List.set]
     refine Cu 3 (by kernel_rfl) rfl (by kernel_rfl) (fun K hK=> ?_);go_simp;go_wp2_with (go_at_call 62;(with_reducible refine (a2.out _ a3).mono ?_);rintro _ u3 ⟨rfl,f3⟩);have aj:=ak.fr f3 zq;have bw:=OpL.frame a3 f3;have bc:=a9.trans f3 zr;refine hK.out _ _ aj (fun _=> ?_);clear hK K;try simp only [Ae,List.set]
     have bb:=fun w'=>bk.out y ui w';refine wpAnyH_take (i:=4) (v:=?_) rfl (by kernel_rfl) (by kernel_rfl) (by kernel_rfl) (fun _ _ _ h=>h) (Or.inl ⟨by kernel_rfl,?_⟩) aj ?_;rotate_left
     focus (intro w' ao;have b1:=ao;(try dsimp only at b1);go_simp;(try with_reducible rfl))
     try simp only [Ae,List.set]
     clear bb;have bz:=b5.fr f3 zq;have aw:w.heap.size≤u1.heap.size:=al.size;have ap:w.heap.size≠u1.heap.size:=An8 a5.lt;have yo:=(ag.non bn).non f3;have ac:w.heap.size≤wd.heap.size:=a8.size;refine Cu 6 (by kernel_rfl) rfl (by kernel_rfl) (fun K hK=> ?_);have aa:=I6 (⟨y,⟨x.by_,x.sq,ui⟩,0,0,0,0,1⟩:Ah);obtain ⟨NC,ae⟩:=Ab (⟨y,⟨x.by_,x.sq,ui⟩,0,0,0,0,1⟩:Ah).cells.toArray;have ad:(Tryz.prog.info? 98).map (·.size)=some NC.size:=by rw [← ae.out];exact bj
     have ab:NC.size=35:=by rw [← ae.out];rfl
     rw [ae.out] at aa ⊢;refine H6 98 (.tmp 6) (.tmp 32) (g:=u1.heap.size) (cs:=NC) rfl rfl (by rfl) (by rfl) bz ad ab.symm aa ?_;have aq:w.heap.size≠u1.heap.size:=ap;have ah:=aj.setRow_far (cs:=NC) aq;have ay:=bz.setRow (cs:=NC);have az:=bc.setRow (g:=u1.heap.size) (fun h=>absurd h (Nat.not_lt.2 aw)) NC;have a0:=(yo.keepP ((Fr.refl (One (u1.heap.size)) (u3)).setRow (g:=u1.heap.size) (fun _=>rfl) NC) (Types.one bz) (by decide) (by decide) (by decide) (by decide) (by decide) (by decide) (by decide)).lower ac;have av:w.heap.size<u1.heap.size:=by omega
     refine hK.out _ _ ah (fun hzz=> ?_);clear hK K hzz;refine oD ?_;go_simp;clear aq aa bz aw ap ac yo ag ad ab;revert a0 az ay ah af av;generalize (u3).setRow (u1.heap.size) NC=wF;generalize u1.heap.size=gs;rw [← ae.out];clear ae NC;revert wF gs y;exact bd
   refine AllReadyH.cons rfl (fun K hK=> ?_) AllReadyH.nil
   ·
    refine Jd (by kernel_rfl) ?_;go_simp;have b7:=Blk.new wd 98 zN;have br:Fr Non wd (wd.alloc (.cells zN 98)):=(Fr.refl Non _).alloc _;have a5:=ar.fr br zq;have a6:=OpL.frame bl br;have al:=a8.trans br zr;refine hK.out _ _ a5 (fun _=> ?_);clear hK K;try simp only [Ae,List.set]
    refine Cu 1 (by kernel_rfl) rfl (by kernel_rfl) (fun K hK=> ?_);go_simp;go_wp2_with (go_at_call 47;(with_reducible refine (bo.out _ a6).mono ?_);rintro _ u2 ⟨y,rfl,af,ag,f2⟩);have ak:=a5.fr f2 zq;have a3:=OpL.frame a6 f2;have a9:=al.trans f2 zr;refine hK.out _ _ ak (fun _=> ?_);clear hK K;try simp only [Ae,List.set]
    refine Cu 3 (by kernel_rfl) rfl (by kernel_rfl) (fun K hK=> ?_);go_simp;go_wp2_with (go_at_call 62;(with_reducible refine (a2.out _ a3).mono ?_);rintro _ u3 ⟨rfl,f3⟩);have aj:=ak.fr f3 zq;have bw:=OpL.frame a3 f3;have bc:=a9.trans f3 zr;refine hK.out _ _ aj (fun _=> ?_);clear hK K;try simp only [Ae,List.set]
    have bb:=fun w'=>bk.out y ui w';refine wpAnyH_take (i:=4) (v:=?_) rfl (by kernel_rfl) (by kernel_rfl) (by kernel_rfl) (fun _ _ _ h=>h) (Or.inl ⟨by kernel_rfl,?_⟩) aj ?_;rotate_left
    focus (intro w' ao;have b1:=ao;(try dsimp only at b1);go_simp;(try with_reducible rfl))
    try simp only [Ae,List.set]
    clear bb;have bz:Blk u3 wd.heap.size 98 zN:=(b7.fr f2 zq).fr f3 zq;have aw:w.heap.size≤wd.heap.size:=An5 b2;have ap:w.heap.size≠wd.heap.size:=An8 ar.lt;have yo:=ag.non f3;have ac:w.heap.size≤(wd.alloc (.cells zN 98)).heap.size:=al.size;refine Cu 6 (by kernel_rfl) rfl (by kernel_rfl) (fun K hK=> ?_);have aa:=I6 (⟨y,⟨x.by_,x.sq,ui⟩,0,0,0,0,1⟩:Ah);obtain ⟨NC,ae⟩:=Ab (⟨y,⟨x.by_,x.sq,ui⟩,0,0,0,0,1⟩:Ah).cells.toArray;have ad:(Tryz.prog.info? 98).map (·.size)=some NC.size:=by rw [← ae.out];exact bj
    have ab:NC.size=35:=by rw [← ae.out];rfl
    rw [ae.out] at aa ⊢;refine H6 98 (.tmp 6) (.tmp 32) (g:=wd.heap.size) (cs:=NC) rfl rfl (by rfl) (by rfl) bz ad ab.symm aa ?_;have aq:w.heap.size≠wd.heap.size:=ap;have ah:=aj.setRow_far (cs:=NC) aq;have ay:=bz.setRow (cs:=NC);have az:=bc.setRow (g:=wd.heap.size) (fun h=>absurd h (Nat.not_lt.2 aw)) NC;have a0:=(yo.keepP ((Fr.refl (One (wd.heap.size)) (u3)).setRow (g:=wd.heap.size) (fun _=>rfl) NC) (Types.one bz) (by decide) (by decide) (by decide) (by decide) (by decide) (by decide) (by decide)).lower ac;have av:w.heap.size<wd.heap.size:=by omega
    refine hK.out _ _ ah (fun hzz=> ?_);clear hK K hzz;refine oD ?_;go_simp;clear aq aa bz aw ap ac yo ag ad ab;revert a0 az ay ah af av;generalize (u3).setRow (wd.heap.size) NC=wF;generalize wd.heap.size=gs;rw [← ae.out];clear ae NC;revert wF gs y;exact bd
  case hp=>
   rename_i K hK;intro y wF gs af ah ay az a0 av;refine hK _ _ ?_;clear hK K;have H:AddS0 w wF base g x y gs ui:=⟨hg,hat,bf.out,bg.out,bi.out,by rw [a7.out];exact ah,ay,av,af,a0,az⟩;have b3:=a7.out;subst b3;clear hg hat hi bj au bu bk a1 a4 bi ax bp be bv bt e0 e2 a7 b6 bf bs ba bg b0 ar a8 bl b2 bo a2 al bx bh af ah ay az a0 av;clear w0 w1 wd;revert H;revert base g x w ui y wF gs;exact hP.down)
end Oq
namespace Oq
attribute [local go_sem ↓] Cg I4 I5 Ri
attribute [local go_sem] Am9 An0
def addB : PSigma (fun P : Prop => PLift P → addA.1) := PSigma.mk _ (by
  intro hP;conv => whnf
  intro base g x w ui y wF gs H;obtain ⟨hg, hat, hok, hEC0, hui0, baF, bsF, hgw, hyop, yoF, frF⟩ := H;have hi : (Tryz.prog.info? 67).map (·.size) = some 27 := by kernel_rfl
  have lpast : x.past.length ≤ 1000000 := by have h := hok.past.1; rw [show x.op.past = x.past from rfl] at h; omega
  have hlx := Bi (P := Tryz.prog) w.heap.size 67 Tryz.underlying67 rfl (cs := x.cells) hi;have kcd := Lib.hid (fun w' (h : Fr Non w w') => Ks base g x.by_ w' (hg.fr h) hg.cfew);have kvr := Lib.hid (fun (c : Cd) (hc : c.s < 18446744073709551616) w' (h : x.at w' w'.heap.size) => Lg c.d c.m c.l c.k c.s x w' h hok hc);have klk := Lib.hid (fun w' (h : Fr Non w w') => Qk base g x w' Qp (hg.fr h) (OpL.frame hat h) (fun id hid => hok.past.2 id hid) lpast);have hbad := Lib.hid (fun (err : Int) (w' : World) (h : Ar g.cards g.pns x.op = err) (h0 : err ≠ 0) (hf : Fr Non w w') => AddPost.bad (base := base) h h0 hf);have hu64 := Ls x.op
  have hname : Hid (x.op.name = ⟨x.by_, x.sq, ui⟩) := by
    show _ = _;unfold Op.name;rw [hui0];rfl
  have hplc : Hid (plc g.pns x.op.name = Ag g.nodes ⟨x.by_, x.sq, ui⟩) := by
    show _ = _;rw [hname.out];exact Fc _ _
  rw [hui0] at hu64;have hidok : (Id.mk x.by_ x.sq ui).ok := ⟨hok.by_, hok.sq, hu64⟩;obtain ⟨CX, hCX⟩ := Ab x.cells;have e0 : Hid (CX[0]? = some (.int .i64 x.by_)) := by show _ = _; rw [← hCX.out]; rfl
  have e2 : Hid (CX[2]? = some (.int .i64 x.kind)) := by show _ = _; rw [← hCX.out]; rfl
  rw [hCX.out] at baF hlx kvr klk ⊢;have hok' := Lib.hid hok;have hEC := Lib.hid hEC0;have hui := Lib.hid hui0;have hyop' := Lib.hid hyop;unfold G9 at kcd;unfold Ad at kvr;clear hok hEC0 hui0 hyop;have yo0 := yoF;have n1 : wF.cell? ⟨gs, 27, none⟩ = some (.int .i64 x.by_) := bsF.cell 27;have n2 : wF.cell? ⟨gs, 28, none⟩ = some (.int .i64 x.sq) := bsF.cell 28;have n3 : wF.cell? ⟨gs, 29, none⟩ = some (.int .u64 (ui : Int)) := bsF.cell 29;have hgF := hg.fr frF;have c1 : wF.cell? ⟨g.gb, 1, none⟩ = some (.map (some g.mb)) := hgF.blk.cell 1;have hmap := hgF.map;have hlook : ∀ w', MapAt w' g.mb g.mm (Ag g.nodes) → (Instr.lookup 91 (.map (some g.mb)) (.agg #[.int .i64 x.by_, .int .i64 x.sq, .int .u64 (ui : Int)]) true).run Tryz.prog w' = .ok (.tuple #[.int .i64 (((Ag g.nodes ⟨x.by_, x.sq, ui⟩).getD 0 : Nat) : Int), .bool (Ag g.nodes ⟨x.by_, x.sq, ui⟩).isSome]) w' := fun w' h => MapAt.look h _ hidok;go_upto_region 5 with (fail)
  clear hgF
  cases hp : Ag g.nodes ⟨x.by_, x.sq, ui⟩
  case some i =>
    rw [hp] at hlook;have hfin := Lib.hid (fun w' h => hbad.out 5 w' (Zu hEC.out (by rw [hplc.out, hp]; rfl)) (by decide) h);clear hp hplc hbad hP kcd kvr klk
    as_aux_lemma =>
    refine wp_region_held_drew (S := (fun w' => w'.cell? ⟨gs, 27, none⟩ = some (.int .i64 x.by_) ∧ w'.cell? ⟨gs, 28, none⟩ = some (.int .i64 x.sq) ∧ w'.cell? ⟨gs, 29, none⟩ = some (.int .u64 (ui : Int)) ∧ w'.cell? ⟨g.gb, 1, none⟩ = some (.map (some g.mb)) ∧ MapAt w' g.mb g.mm (Ag g.nodes))) (by kernel_rfl) ⟨n1, n2, n3, c1, hmap⟩ (fun hHeld => ?_);clear hHeld;have hS : (fun w' => w'.cell? ⟨gs, 27, none⟩ = some (.int .i64 x.by_) ∧ w'.cell? ⟨gs, 28, none⟩ = some (.int .i64 x.sq) ∧ w'.cell? ⟨gs, 29, none⟩ = some (.int .u64 (ui : Int)) ∧ w'.cell? ⟨g.gb, 1, none⟩ = some (.map (some g.mb)) ∧ MapAt w' g.mb g.mm (Ag g.nodes)) wF.drew := ⟨n1, n2, n3, c1, hmap⟩;replace frF := frF.drew;refine tkH 0 hS (h:=?_);simp only [List.set];refine tkH 1 hS (h:=?_);simp only [List.set];refine tkH 2 hS (h:=?_);simp only [List.set];refine tkH 3 hS (h:=?_);simp only [List.set];refine tkH 4 hS (h:=?_);simp only [List.set];refine tkH 5 hS (h:=?_);simp only [List.set];refine tkH 6 hS (h:=?_);simp only [List.set];refine tkH 7 hS (h:=?_);simp only [List.set];refine tkH 8 hS (h:=?_);simp only [List.set];refine tkH 9 hS (h:=?_);simp only [List.set];refine tkH 10 hS (h:=?_);simp only [List.set];refine tkH 11 hS (h:=?_);simp only [List.set];refine wpAnyH_done (by kernel_rfl) ?_ _;go_simp;go_wp2_with (fail)
    go_ret
    exact hfin.out _ frF
  case none =>
    rw [hp] at hlook;have hnew : Hid (plc g.pns x.op.name = none) := by show _ = _; rw [hplc.out, hp]
    clear hp hplc;refine wp_region_held_drew (S := (fun w' => w'.cell? ⟨gs, 27, none⟩ = some (.int .i64 x.by_) ∧ w'.cell? ⟨gs, 28, none⟩ = some (.int .i64 x.sq) ∧ w'.cell? ⟨gs, 29, none⟩ = some (.int .u64 (ui : Int)) ∧ w'.cell? ⟨g.gb, 1, none⟩ = some (.map (some g.mb)) ∧ MapAt w' g.mb g.mm (Ag g.nodes))) (by kernel_rfl) ⟨n1, n2, n3, c1, hmap⟩ (fun hHeld => ?_);clear hHeld;have hS : (fun w' => w'.cell? ⟨gs, 27, none⟩ = some (.int .i64 x.by_) ∧ w'.cell? ⟨gs, 28, none⟩ = some (.int .i64 x.sq) ∧ w'.cell? ⟨gs, 29, none⟩ = some (.int .u64 (ui : Int)) ∧ w'.cell? ⟨g.gb, 1, none⟩ = some (.map (some g.mb)) ∧ MapAt w' g.mb g.mm (Ag g.nodes)) wF.drew := ⟨n1, n2, n3, c1, hmap⟩;replace frF := frF.drew;refine tkH 0 hS (h:=?_);simp only [List.set];refine tkH 1 hS (h:=?_);simp only [List.set];refine tkH 2 hS (h:=?_);simp only [List.set];refine tkH 3 hS (h:=?_);simp only [List.set];refine tkH 4 hS (h:=?_);simp only [List.set];refine tkH 5 hS (h:=?_);simp only [List.set];refine tkH 6 hS (h:=?_);simp only [List.set];refine tkH 7 hS (h:=?_);simp only [List.set];refine tkH 8 hS (h:=?_);simp only [List.set];refine tkH 9 hS (h:=?_);simp only [List.set];refine tkH 10 hS (h:=?_);simp only [List.set];refine tkH 11 hS (h:=?_);simp only [List.set];refine wpAnyH_done (by kernel_rfl) ?_ _;go_simp;clear hlook hS;replace baF : Blk wF.drew w.heap.size 67 CX := baF.drew;replace bsF := bsF.drew;replace yoF := yo0.non ((Fr.refl Non wF).drew);clear n1 n2 n3 c1 hmap yo0;generalize wF.drew = w2 at *;have hg2 := hg.fr frF;have c2 : w2.cell? ⟨g.gb, 2, none⟩ = some (.slice g.nA g.nodes.length g.nC) := hg2.blk.cell 2;have hlen : Hid (g.pns.length = g.nodes.length) := by show _ = _; unfold Gph.pns; rw [An1]
    obtain ⟨nn, hnn⟩ := Ab g.nodes.length;rw [hnn.out] at c2 hlen;clear hg2
    by_cases hfull : 200 ≤ nn
    case pos =>
      have hb : decide ((200 : Int) ≤ (nn : Int)) = true := by rw [decide_eq_true_iff]; omega
      have hfin := Lib.hid (hbad.out 3 w2 (Zv hEC.out hnew.out (by rw [hlen.out]; exact hfull)) (by decide) frF);clear hbad hP kcd kvr klk hfull
      as_aux_lemma =>
      go_wp2_with (fail)
      go_ret
      exact hfin.out
    case neg =>
      have hb : decide ((200 : Int) ≤ (nn : Int)) = false := by rw [decide_eq_false_iff_not]; omega
      have hrest := Lib.hid (Zw (cards := g.cards) hEC.out hnew.out (by rw [hlen.out]; omega));have hfew : Hid (nn < 200) := by show _ < _; omega
      clear hfull;have x0 : w2.cell? ⟨w.heap.size, 0, none⟩ = some (.int .i64 x.by_) := (baF.cell 0).trans e0.out;have kc1 := Lib.hid (kcd.out w2 frF);clear kcd;have hcard : Hid (Cw g.cards x.op.by_ = g.card x.by_) := rfl
      cases hcd : g.card x.by_
      case none =>
        rw [hcd] at kc1;have hfin := Lib.hid (fun w' h => hbad.out 17 w' (by rw [hrest.out, hcard.out, hcd]) (by decide) h);clear hrest hcard hcd hbad hP kvr klk
        as_aux_lemma =>
        have kc2 : Hid (Calls Tryz.prog 25 #[.pointer (some ⟨g.gb, 0, none⟩), .int .i64 x.by_] w2 fun e w' => e = .returned (.tuple #[.agg #[.int .i64 0, .int .i64 0, .int .u64 0, .int .u64 0, .int .u64 0], .bool false]) ∧ Fr Non w2 w') := kc1.out;clear kc1;go_upto_region 11 with (go_at_call 25; (with_reducible refine (kc2.out).mono ?_); rintro _ w3 ⟨rfl, f3⟩)
        have hfin2 := Lib.hid (fun w' h => hfin.out w' ((frF.trans f3 (fun _ _ e => e)).trans h (fun _ _ e => e)));go_wp2_with (fail)
        go_ret
        exact hfin2.out _ ((Fr.refl Non w3).alloc _)
      case some c =>
        have hcdf : g.cards.find? (fun c => c.d == x.by_) = some c := hcd;have hcm := List.mem_of_find?_eq_some hcdf;have hdd : (c.d == x.by_) = true := by have h := List.find?_some hcdf; exact h
        have hcd' : c.d = x.by_ := by simpa using hdd
        rw [hcd] at kc1;have hcs := hg.cok c hcm
        have hrest2 : Hid (Ar g.cards g.pns x.op = if Sg.check c.s x.op.bare x.op.r x.op.s = false then 12
              else if x.op.kind = 1 ∧ g.pns ≠ [] then 1
              else if x.op.past.any (fun id => (plc g.pns id).isNone) = true then 10
              else if clash g.pns x.op.past = true ∨ x.op.at_ < late g.pns x.op.past then 6
              else if B4 g.pns (Ai g.pns x.op.past) x.op = true then 11
              else 0) := by show _ = _; rw [hrest.out, hcard.out, hcd]
        have kv1 := Lib.hid (kvr.out c hcs);clear hrest hcard hcd kvr hcm hdd hcdf;rw [show (x.by_ == c.d) = true by rw [hcd']; simp, Bool.true_and] at kv1;have kc2 : Hid (Calls Tryz.prog 25 #[.pointer (some ⟨g.gb, 0, none⟩), .int .i64 x.by_] w2 fun e w' => e = .returned (.tuple #[.agg #[.int .i64 c.d, .int .i64 c.m, .int .u64 (c.l : Int), .int .u64 (c.k : Int), .int .u64 (c.s : Int)], .bool true]) ∧ Fr Non w2 w') := kc1.out;clear kc1 hcd' hcs;obtain ⟨sb, hsb⟩ := Ab (Sg.check c.s x.op.bare x.op.r x.op.s);rw [hsb.out] at hrest2;rw [show Sg.check c.s x.op.bare x.r x.s = sb from hsb.out] at kv1;clear hsb;go_upto_region 11 with (go_at_call 25; (with_reducible refine (kc2.out).mono ?_); rintro _ w3 ⟨rfl, f3⟩)
        have f4 : Fr Non w2 (w3.alloc (.cells #[.int .i64 c.d, .int .i64 c.m, .int .u64 (c.l : Int), .int .u64 (c.k : Int), .int .u64 (c.s : Int)] 71)) := f3.alloc _;have bcd := Blk.new w3 71 #[.int .i64 c.d, .int .i64 c.m, .int .u64 (c.l : Int), .int .u64 (c.k : Int), .int .u64 (c.s : Int)];have baG := baF.fr f4 (fun e => e);have bsG := bsF.fr f4 (fun e => e);have yoG := yoF.non f4;have frG := frF.trans f4 (fun _ _ e => e);obtain ⟨gc, hgc⟩ := Ab w3.heap.size;rw [hgc.out] at bcd ⊢;generalize w3.alloc (.cells #[.int .i64 c.d, .int .i64 c.m, .int .u64 (c.l : Int), .int .u64 (c.k : Int), .int .u64 (c.s : Int)] 71) = w4 at *;have m0 : w4.cell? ⟨gc, 0, none⟩ = some (.int .i64 c.d) := bcd.cell 0;have m1 : w4.cell? ⟨gc, 1, none⟩ = some (.int .i64 c.m) := bcd.cell 1;have m2 : w4.cell? ⟨gc, 2, none⟩ = some (.int .u64 (c.l : Int)) := bcd.cell 2;have m3 : w4.cell? ⟨gc, 3, none⟩ = some (.int .u64 (c.k : Int)) := bcd.cell 3;have m4 : w4.cell? ⟨gc, 4, none⟩ = some (.int .u64 (c.s : Int)) := bcd.cell 4;have kv2 := Lib.hid (kv1.out w4 (OpL.frame hat frG));clear kv1 bcd baF bsF yoF frF f3 f4 hgc x0 kc2
        cases sb
        case false =>
          have hfin := Lib.hid (fun w' h => hbad.out 12 w' (by rw [hrest2.out, if_pos rfl]) (by decide) h);clear hrest2 hbad hP klk
          as_aux_lemma =>
          go_wp2_with (go_at_call 26; (with_reducible refine (kv2.out).mono ?_); rintro _ w5 ⟨rfl, f5⟩)
          go_ret
          exact hfin.out _ (frG.trans f5 (fun _ _ e => e))
        case true =>
          have hrest3 : Hid (Ar g.cards g.pns x.op = if x.op.kind = 1 ∧ g.pns ≠ [] then 1
                else if x.op.past.any (fun id => (plc g.pns id).isNone) = true then 10
                else if clash g.pns x.op.past = true ∨ x.op.at_ < late g.pns x.op.past then 6
                else if B4 g.pns (Ai g.pns x.op.past) x.op = true then 11
                else 0) := by show _ = _; rw [hrest2.out, if_neg (by decide)]
          clear hrest2;go_upto_region 15 with (go_at_call 26; (with_reducible refine (kv2.out).mono ?_); rintro _ w5 ⟨rfl, f5⟩)
          have frH := frG.trans f5 (fun _ _ e => e);have baH := baG.fr f5 (fun e => e);have bsH := bsG.fr f5 (fun e => e);have yoH := yoG.non f5;clear kv2 baG bsG yoG frG f5 m0 m1 m2 m3 m4;have c2' : w5.cell? ⟨g.gb, 2, none⟩ = some (.slice g.nA nn g.nC) := by rw [← hnn.out]; exact (hg.fr frH).blk.cell 2
          have x2 : w5.cell? ⟨w.heap.size, 2, none⟩ = some (.int .i64 x.kind) := (baH.cell 2).trans e2.out;obtain ⟨kb, hkb⟩ := Ab (x.kind == 1 && decide ((0 : Int) < (nn : Int)));clear c2
          go_cut [6, 73] from 5 (fun n s wc => w5 = wc ∧ n = .pointer (some ⟨gs, 0, none⟩) ∧ s = .bool kb)
          case first =>
            clear hbad hP klk hrest3
            as_aux_lemma =>
            rcases Ao5 (x.kind == 1) with t1 | t1
            · have hv : Hid (decide ((0 : Int) < (nn : Int)) = kb) := by show _ = _; rw [← hkb.out, t1]; rfl
              go_wp2_with (fail);go_meet;exact ⟨rfl, rfl, congrArg Value.bool (by rw [← hv.out]; exact decide_eq_decide.2 (by omega))⟩
            · have hv : Hid (false = kb) := by show _ = _; rw [← hkb.out, t1]; rfl
              go_wp2_with (fail);go_meet;exact ⟨rfl, rfl, congrArg Value.bool hv.out⟩
          case rest =>
          obtain ⟨rfl, rfl, rfl⟩ := hcut
          cases kb
          case true =>
            have hfin := Lib.hid (fun w' h => hbad.out 1 w' (by
              have h1 := hkb.out;rw [Ao6, beq_iff_eq, decide_eq_true_iff] at h1;rw [hrest3.out, if_pos ⟨h1.1, fun e => by have h2 := hlen.out; rw [e] at h2; simp at h2; omega⟩]) (by decide) h)
            clear hrest3 hbad hP klk
            as_aux_lemma =>
            go_wp2_with (fail)
            go_ret
            exact hfin.out _ frH
          case false =>
            have hrest4 : Hid (Ar g.cards g.pns x.op = if x.op.past.any (fun id => (plc g.pns id).isNone) = true then 10
                else if clash g.pns x.op.past = true ∨ x.op.at_ < late g.pns x.op.past then 6
                else if B4 g.pns (Ai g.pns x.op.past) x.op = true then 11
                else 0) := by
              show _ = _;have h1 := hkb.out;rw [Bool.and_eq_false_iff, beq_eq_false_iff_ne, decide_eq_false_iff_not] at h1
              rw [hrest3.out, if_neg (fun e => by
                rcases h1 with h1 | h1
                · exact h1 e.1
                · refine e.2 (Ao7 ?_)
                  rw [hlen.out];omega)]
            clear hrest3;have kl := Lib.hid (klk.out w5 frH);clear klk;have hany := Lib.hid (Zx g x.past);unfold Iz at kl;obtain ⟨m, hm⟩ := Ab (x.past.filter (fun id => !(Ag g.nodes id).isSome)).length;rw [hm.out] at kl hany
            by_cases hm0 : m = 0
            case neg =>
              have hb0 : decide (0 < m) = true := by rw [decide_eq_true_iff]; omega
              have hfin := Lib.hid (fun w' h => hbad.out 10 w' (by
                rw [hrest4.out, if_pos (by
                  rcases Ao5 (x.op.past.any (fun id => (plc g.pns id).isNone)) with e | e
                  · exact e
                  · exact absurd (hany.out.2 e) hm0)]) (by decide) h)
              clear hrest4 hbad hP hm0
              as_aux_lemma =>
              go_wp2_with (go_at_call 63; (with_reducible refine (kl.out).mono ?_); rintro _ w6 ⟨A6, c6, rfl, r6, f6⟩)
              go_ret
              exact hfin.out _ (frH.trans f6 (fun _ _ e => e))
            case pos =>
              have hb0 : decide (0 < m) = false := by rw [decide_eq_false_iff_not]; omega
              have hall : Hid (x.op.past.any (fun id => (plc g.pns id).isNone) = false) := by
                exact hany.out.1 hm0
              have hrest5 : Hid (Ar g.cards g.pns x.op = if clash g.pns x.op.past = true ∨ x.op.at_ < late g.pns x.op.past then 6
                else if B4 g.pns (Ai g.pns x.op.past) x.op = true then 11
                else 0) := by
                show _ = _;rw [hrest4.out, if_neg (by rw [hall.out]; decide)]
              clear hrest4 hany hm0;go_upto_region 19 with (go_at_call 63; (with_reducible refine (kl.out).mono ?_); rintro _ w6 ⟨A6, c6, rfl, r6, f6⟩)
              rename_i K hK;have H : Lr w w6 base g x y gs := ⟨hg, hat, hok'.out, by rw [hCX.out]; exact baH.fr f6 (fun e => e), by rw [hname.out]; exact bsH.fr f6 (fun e => e), hgw, hyop'.out, yoH.non f6, frH.trans f6 (fun _ _ e => e), hEC.out, by rw [hnn.out]; exact hfew.out, hall.out, hnew.out, hrest5.out⟩;have hcx := hCX.out;subst hcx;try clear hg
              try clear hat
              try clear hi
              try clear hlx
              try clear hbad
              try clear hu64
              try clear hname
              try clear hplc
              try clear hidok
              try clear e0
              try clear e2
              try clear hCX
              try clear hok'
              try clear hEC
              try clear hui
              try clear hyop'
              try clear hall
              try clear hrest5
              try clear kl
              try clear hb
              try clear hb0
              try clear hfew
              try clear hlen
              try clear hnn
              try clear hnew
              try clear baH
              try clear bsH
              try clear yoH
              try clear frH
              try clear c2'
              try clear x2
              try clear r6
              try clear f6
              try clear hkb
              try clear hm
              try clear hrest4
              try clear hany
              try clear hm0
              try clear wF
              try clear w2
              try clear w3
              try clear w4
              try clear hnn
              try clear nn
              try clear ui
              try clear c
              try clear gc
              try clear hui
              try clear hbad
              try clear hP0
              revert H;revert hK;revert base g x w y gs K A6 c6 m w6;revert u5 u7 u8 u9 u10 u11 u12 u13 u14 u15 u16 u17 u18 u19 u20 u21 u22 u23 u24 u25 u26 u27 u28 u29 u30 u31 u32 u33 u34 u35 u36 u37 u38 u39 u40 u41 u42 u43 u44 u45 u46 u47 u48 u49 u50 u51 u52 u53 u54 u55 u56 u57 u58 u59 u60 u61 u62 u63 u64 u65 u66 u67 u68 u69 u70 u71 u72 u79 u80 u81 u82 u83 u84 u85 u86 u87 u88 u89 u90 u91 u92 u93 u94 u95 u96 u97 u98 u99 u100 u101 u102 u103 u104 u105 u106 u107 u108 u109 u110 u111 u112 u113 u114 u115 u116 u117 u118 u119 u120 u121 u122 u123 u124 u125 u126 u127 u128 u129 u130 u131 u132 u133 u134 u135 u136 u137 u138 u139 u140 u141 u142 u143 u144 u145 u146 u147 u148 u149 u150 u151 u152 u153 u154 u155 u156 u157 u158 u159 u160 u161 u162 u163 u164 u165 u166 u167 u168 u169 u170 u171 u172 u173 u174 u175 u176 u177 u178 u179 u180 u181 u182 u183 u184 u185 u186 u187 u188 u189 u190 u191 u192 u193 u194 u195 u196 u197 u198 u199 u200 u201 u202 u203 u204 u205 u206 u207 u208 u209 u210 u211 u212 u213 u214 u215 u216 u217 u218 u219 u220 u221 u222 u223 u224 u225 u226 u227 u228 u229 u230 u231 u232 u233;exact hP.down)
end Oq
end
section
open Go.RowKit Go.Sort
attribute [local go_sem ↓] Go.wp_at_zero Go.wp_at_succ
namespace Oq
theorem Picked.from {g:Gph} {p:Nat→Bool} {w0 w:World} {e:Ending} {w':World} (h:Picked g p w e w') (hf:Fr Non w0 w):Picked g p w0 e w':=by
 obtain ⟨A,c,ids,h1,h2,h3,h4,h5⟩:=h;exact ⟨A,c,ids,h1,h2,h3,h4.lower hf.size,hf.trans h5 zr⟩
end Oq
end
section
open Go.RowKit Go.Sort Go.Shelf
namespace Oq
instance:Inhabited Id:=⟨⟨0,0,0⟩⟩
theorem Rj (xs:List Id) {j:Nat} (hj:j<xs.length*3):(xs.flatMap Id.cells)[j]? =some ((flatK Id.cells 3 xs.toArray)[j]!):=by
 rw [get_flatK _ _ _ _ (by simpa using hj)];have hk:j/3<xs.length:=by omega
 have h1:xs[j/3]? =some xs[j/3]:=Am8 hk;have h2:=Fo (f:=Id.cells) (size:=3) (fun _=>rfl) xs (j/3) (j%3) _ h1 (by omega);rw [show j/3*3+j%3=j by omega] at h2;rw [h2];have h3:xs.toArray[j/3]! =xs[j/3]:=by simp [hk]
 rw [h3];have h4:j%3<(Id.cells xs[j/3]).length:=by show _<3;omega
 rw [Am8 h4];simp [h4]
theorem Rk {w:World} {base n c:Nat} {t:TypeId} {g:Nat} {l:List Value} {size:Nat} (h:Own w base t size (some ⟨g,0,none⟩) n c l) (hn:0<n):
  ∃cur,Blk w g t cur∧cur.toList.take (n*size)=l∧n*size≤cur.size:=by
 rcases h.2 with ⟨_,h0⟩|⟨g',cap,cur,hv,hb,hg,h1,h2,h3,h4⟩
 · omega
 ·
  injection hv with hA hn' hc
  injection hA with hA
  injection hA with hA
  subst hA;refine ⟨cur,hg,h4,?_⟩;have h5:=congrArg An6 h4;rw [An9,Ao0,h.1] at h5;omega
theorem Zy {w:World} {base c:Nat} {t:TypeId} {g:Nat} {xs:List Id} (h:Own w base t 3 (some ⟨g,0,none⟩) xs.length c (xs.flatMap Id.cells)):HoldsK Id.cells 3 w g 0 xs.toArray:=by
 intro j hj;have hj':j<xs.length*3:=by simpa using hj
 obtain ⟨cur,hb,hl,hs⟩:=Rk h (by omega);have hf:=Rj xs hj';rw [An2];refine ⟨?_,hb.frozen j⟩;rw [hb.cell j,id,← hf,← hl,Ao1 hj'];simp
theorem Rl {w:World} {t:TypeId} {g n:Nat} {cur:Array Value} {d:Array Value} {os:Array Obj} (h:Blk w g t cur):
  Blk (grow (putRow id (Sort.ahead w n) g 0 d) os) g t (putCells id 0 d cur):=by
 have hlt:=h.lt;unfold Blk at*;unfold grow putRow mapBlock Sort.ahead;simp only;rw [Ao8 (by simpa using hlt),Ao9,if_pos rfl,h];rfl
theorem Lt (w:World) (g n:Nat) (d:Array Value) (os:Array Obj):Fr (One g) w (grow (putRow id (Sort.ahead w n) g 0 d) os):=by
 refine ⟨rfl,rfl,rfl,?_,?_⟩
 · simp [grow,putRow,mapBlock,Sort.ahead]
 ·
  intro k hk hne;unfold grow putRow mapBlock Sort.ahead;simp only;rw [Ao8 (by simpa using hk),Ao9,if_neg (fun e=>hne e.symm)]
theorem Rm {d cur:Array Value} {l:List Value} (hd:d.size=l.length) (hl:∀j,j<l.length→l[j]? =some d[j]!) (hs:l.length≤cur.size):(putCells id 0 d cur).toList.take l.length=l:=by
 apply List.ext_getElem?;intro j
 by_cases hj:j<l.length
 ·
  rw [Ao1 hj,hl j hj];have hc:j<cur.size:=by omega
  have hjd:j<d.size:=by omega
  simp [putCells,hc,hjd]
 · rw [List.getElem?_take_eq_none (by omega),List.getElem?_eq_none (by omega)]
theorem Zz {w:World} {base c:Nat} {t:TypeId} {g:Nat} {xs ys:List Id} (n:Nat) (os:Array Obj) (h:Own w base t 3 (some ⟨g,0,none⟩) xs.length c (xs.flatMap Id.cells)) (hx:0<xs.length) (hl:ys.length=xs.length):
  Own (sortWorldK Id.cells 3 w g 0 n ys.toArray os) base t 3 (some ⟨g,0,none⟩) ys.length c (ys.flatMap Id.cells):=by
 have hyl:(ys.flatMap Id.cells).length=ys.length*3:=Fp (f:=Id.cells) (fun _=>rfl) ys
 rcases h.2 with ⟨_,h0⟩|⟨g',cap,cur,hv,hb,hg,h1,h2,h3,h4⟩
 · omega
 ·
  injection hv with hA hn' hc
  injection hA with hA
  injection hA with hA
  subst hA;subst hc
  have hs:xs.length*3≤cur.size:=by
   have h5:=congrArg An6 h4;rw [An9,Ao0,h.1] at h5;omega
  have hnew:=Rl (n:=n) (os:=os) (d:=flatK Id.cells 3 ys.toArray) (show Blk w g t cur from hg);refine ⟨hyl,.inr ⟨g,c,putCells id 0 (flatK Id.cells 3 ys.toArray) cur,rfl,hb,hnew,by omega,h2,?_,?_⟩⟩
  · simpa [putCells] using h3
  ·
   rw [← hyl];exact Rm (by rw [hyl];simp) (fun j hj=>Rj ys (by omega)) (by omega)
end Oq
end
section
open Go.RowKit Go.Sort Go.Shelf
namespace Oq
theorem Je (x y:Id):ltOf E6 x y=Id.less x y:=by
 unfold ltOf E6
 cases Id.less x y<;>cases Id.less y x<;>rfl
theorem Z0:SWO (ltOf E6) where
 irrefl x:=by rw [Je];exact Id.less_irr x
 trans x y z h1 h2:=by
  rw [Je] at*;exact Id.less_tr h1 h2
 ntrans x y z h1 h2:=by
  rw [Je] at*
  rcases Id.less_f h1 with rfl|h1
  · exact h2
  ·
   rcases Id.less_f h2 with rfl|h2
   · exact Id.less_as h1
   · exact Id.less_as (Id.less_tr h2 h1)
end Oq
end
end Go.Proofs.YtkanjaikgphjfaaGreatDoor
namespace Go.Proofs
open Go.Shelf Go.RowKit Go.Lib Go.Sort
def Tryz.sortIdents_ren:Go.Shelf.Ren:=⟨fun|6=>69|15=>67|14=>121|28=>119|29=>120|20=>173|21=>174|22=>175|23=>176|24=>177|25=>178|26=>179|27=>180|46=>203|47=>169|48=>170|49=>204|50=>205|57=>214|n=>n,fun|22=>25|24=>41|25=>125|3=>3|39=>123|0=>0|53=>178|55=>39|4=>4|46=>172|45=>171|50=>86|5=>5|9=>9|66=>219|70=>222|76=>239|77=>240|n=>n,fun|n=>n⟩
theorem Tryz.sortIdents:Go.Proofs.SlLaysF0.n6 Tryz.prog Tryz.sortIdents_ren:={
  mixed:=by kernel_rfl
  f6:=⟨Tryz.f69.name,by decide,Tryz.func69.trans (congrArg some (by kernel_rfl))⟩
  f14:=⟨Tryz.f121.name,by decide,Tryz.func121.trans (congrArg some (by kernel_rfl))⟩
  f15:=Tryz.func67.trans (congrArg some (by kernel_rfl))
  f20:=⟨Tryz.f173.name,by decide,Tryz.func173.trans (congrArg some (by kernel_rfl))⟩
  f21:=⟨Tryz.f174.name,by decide,Tryz.func174.trans (congrArg some (by kernel_rfl))⟩
  f22:=⟨Tryz.f175.name,by decide,Tryz.func175.trans (congrArg some (by kernel_rfl))⟩
  f23:=⟨Tryz.f176.name,by decide,Tryz.func176.trans (congrArg some (by kernel_rfl))⟩
  f24:=⟨Tryz.f177.name,by decide,Tryz.func177.trans (congrArg some (by kernel_rfl))⟩
  f25:=⟨Tryz.f178.name,by decide,Tryz.func178.trans (congrArg some (by kernel_rfl))⟩
  f26:=⟨Tryz.f179.name,by decide,Tryz.func179.trans (congrArg some (by kernel_rfl))⟩
  f27:=⟨Tryz.f180.name,by decide,Tryz.func180.trans (congrArg some (by kernel_rfl))⟩
  f28:=Tryz.func119.trans (congrArg some (by kernel_rfl))
  f29:=Tryz.func120.trans (congrArg some (by kernel_rfl))
  f46:=⟨Tryz.f203.name,by decide,Tryz.func203.trans (congrArg some (by kernel_rfl))⟩
  f47:=Tryz.func169.trans (congrArg some (by kernel_rfl))
  f48:=Tryz.func170.trans (congrArg some (by kernel_rfl))
  f49:=⟨Tryz.f204.name,by decide,Tryz.func204.trans (congrArg some (by kernel_rfl))⟩
  f50:=⟨Tryz.f205.name,by decide,Tryz.func205.trans (congrArg some (by kernel_rfl))⟩
  f57:=⟨Tryz.f214.name,by decide,Tryz.func214.trans (congrArg some (by kernel_rfl))⟩
  t0:=Tryz.underlying0
  a0:=Tryz.isAgg0
  z0:=Tryz.sizeOf0
  v0:=Tryz.zeroValue0
  t3:=Tryz.underlying3
  a3:=Tryz.isAgg3
  z3:=Tryz.sizeOf3
  v3:=Tryz.zeroValue3
  t4:=Tryz.underlying4
  a4:=Tryz.isAgg4
  z4:=Tryz.sizeOf4
  v4:=Tryz.zeroValue4
  t5:=Tryz.underlying5
  a5:=Tryz.isAgg5
  z5:=Tryz.sizeOf5
  v5:=Tryz.zeroValue5
  t9:=Tryz.underlying9
  a9:=Tryz.isAgg9
  z9:=Tryz.sizeOf9
  v9:=Tryz.zeroValue9
  t22:=Tryz.underlying25
  a22:=Tryz.isAgg25
  z22:=Tryz.sizeOf25
  v22:=Tryz.zeroValue25
  t25:=Tryz.underlying125
  a25:=Tryz.isAgg125
  z25:=Tryz.sizeOf125
  v25:=Tryz.zeroValue125
  t39:=Tryz.underlying123
  a39:=Tryz.isAgg123
  z39:=Tryz.sizeOf123
  v39:=Tryz.zeroValue123
  t45:=Tryz.underlying171
  a45:=Tryz.isAgg171
  z45:=Tryz.sizeOf171
  v45:=Tryz.zeroValue171
  t46:=Tryz.underlying172
  a46:=Tryz.isAgg172
  z46:=Tryz.sizeOf172
  v46:=Tryz.zeroValue172
  t50:=Tryz.underlying86
  a50:=Tryz.isAgg86
  z50:=Tryz.sizeOf86
  v50:=Tryz.zeroValue86
  t53:=Tryz.underlying178
  a53:=Tryz.isAgg178
  z53:=Tryz.sizeOf178
  v53:=Tryz.zeroValue178
  t55:=Tryz.underlying39
  a55:=Tryz.isAgg39
  z55:=Tryz.sizeOf39
  v55:=Tryz.zeroValue39
  t66:=Tryz.underlying219
  a66:=Tryz.isAgg219
  z66:=Tryz.sizeOf219
  v66:=Tryz.zeroValue219
  t70:=Tryz.underlying222
  a70:=Tryz.isAgg222
  z70:=Tryz.sizeOf222
  v70:=Tryz.zeroValue222
  t76:=Tryz.underlying239
  a76:=Tryz.isAgg239
  z76:=Tryz.sizeOf239
  v76:=Tryz.zeroValue239
  t77:=Tryz.underlying240
  a77:=Tryz.isAgg240
  z77:=Tryz.sizeOf240
  v77:=Tryz.zeroValue240}
end Go.Proofs
namespace Go.Proofs.YtkanjaikgphjfaaGreatDoor
section
open Go.RowKit Go.Sort Go.Shelf
namespace Oq
end Oq
end
section
open Go.RowKit Go.Sort
attribute [local go_sem ↓] Go.wp_at_zero Go.wp_at_succ
namespace Oq
attribute [local go_sem] Am9 An0
theorem Z1 {w:World} {g:Nat} {t:TypeId} {ws:List Nat} (h:Blk w g t (ws.map Uv).toArray) (hl:ws.length=4):E7 w g 0 ws:=fun j hj=>by
 rw [h.cell,An2,List.getElem?_toArray,An4,Am8 (by omega)];simp [Uv,List.getD,Am8 (show j<ws.length by omega)]
theorem Z2 {w:World} {g k i v:Nat} {t:TypeId} {ws:List Nat} (h:Blk w g t (ws.map Uv).toArray):Blk ((w.drewN k).setCell ⟨g,i,none⟩ (.int .u64 (v:Int))) g t ((ws.set i v).map Uv).toArray:=by
 have h1:=(h.drewN k).set i (.int .u64 (v:Int));rw [List.map_set];have e:(ws.map Uv).toArray.setIfInBounds i (.int .u64 (v:Int))=((ws.map Uv).set i (Uv v)).toArray:=by simp [Uv]
 rw [← e];exact h1
end Oq
end
section
open Go.RowKit
attribute [local go_sem ↓] Go.wp_at_zero Go.wp_at_succ
namespace Oq
attribute [local go_sem] Am9 An0
structure LSt (w wr:World) (x y:OpL) (gs pb:Nat) (PW:List Nat) (a0 a1 a2 a3 lv:Nat):Prop where
 bx:Blk wr w.heap.size 67 x.cells
 bn:Blk wr gs 98 (⟨y,x.op.name,0,0,0,0,lv⟩:Ah).cells.toArray
 bp:Blk wr pb 96 (PW.map Uv).toArray
 ba:Blk wr (pb+1) 96 #[.int .u64 (a0:Int),.int .u64 (a1:Int),.int .u64 (a2:Int),.int .u64 (a3:Int)]
 yown:y.own wr w.heap.size
 fr:Fr Non w wr
 lo1:w.heap.size<gs
 lo2:gs<pb
section
variable {w wr w' : World} {x y : OpL} {gs pb : Nat} {PW : List Nat} {a0 a1 a2 a3 lv : Nat}
theorem LSt.non (L:LSt w wr x y gs pb PW a0 a1 a2 a3 lv) (hf:Fr Non wr w'):LSt w w' x y gs pb PW a0 a1 a2 a3 lv:=
 ⟨L.bx.fr hf zq,L.bn.fr hf zq,L.bp.fr hf zq,L.ba.fr hf zq,L.yown.non hf,L.fr.trans hf zr,L.lo1,L.lo2⟩
theorem LSt.par (L:LSt w wr x y gs pb PW a0 a1 a2 a3 lv) {PW':List Nat} (hf:Fr (One pb) wr w') (hb:Blk w' pb 96 (PW'.map Uv).toArray):LSt w w' x y gs pb PW' a0 a1 a2 a3 lv:=by
 have h1:=L.lo1;have h2:=L.lo2;exact ⟨L.bx.fr hf (by unfold One;omega),L.bn.fr hf (by unfold One;omega),hb,L.ba.fr hf (by unfold One;omega),L.yown.keepP hf (Types.one L.bp) (by decide) (by decide) (by decide) (by decide) (by decide) (by decide) (by decide),L.fr.trans hf (fun k hk e=>by have e':k=pb:=e;omega),h1,h2⟩
theorem LSt.abv (L:LSt w wr x y gs pb PW a0 a1 a2 a3 lv) {b0 b1 b2 b3:Nat} (hf:Fr (One (pb+1)) wr w') (hb:Blk w' (pb+1) 96 #[.int .u64 (b0:Int),.int .u64 (b1:Int),.int .u64 (b2:Int),.int .u64 (b3:Int)]):LSt w w' x y gs pb PW b0 b1 b2 b3 lv:=by
 have h1:=L.lo1;have h2:=L.lo2;exact ⟨L.bx.fr hf (by unfold One;omega),L.bn.fr hf (by unfold One;omega),L.bp.fr hf (by unfold One;omega),hb,L.yown.keepP hf (Types.one L.ba) (by decide) (by decide) (by decide) (by decide) (by decide) (by decide) (by decide),L.fr.trans hf (fun k hk e=>by have e':k=pb+1:=e;omega),h1,h2⟩
theorem LSt.lev (L:LSt w wr x y gs pb PW a0 a1 a2 a3 lv) (lv':Nat):LSt w (wr.setCell ⟨gs,34,none⟩ (.int .i64 (lv':Int))) x y gs pb PW a0 a1 a2 a3 lv':=by
 have h1:=L.lo1;have h2:=L.lo2;have hf:=(Fr.refl (One gs) wr).setOne 34 (.int .i64 (lv':Int));exact ⟨L.bx.fr hf (by unfold One;omega),L.bn.set 34 _,L.bp.fr hf (by unfold One;omega),L.ba.fr hf (by unfold One;omega),L.yown.keepP hf (Types.one L.bn) (by decide) (by decide) (by decide) (by decide) (by decide) (by decide) (by decide),L.fr.trans hf (fun k hk e=>by have e':k=gs:=e;omega),h1,h2⟩
end
structure CSt (w wr:World) (base:Nat) (g:Gph) (x y:OpL) (gs pb:Nat) (PW:List Nat) (a0 a1 a2 a3 lv:Nat) (lt:Int) (wa:World):Prop where
 A:Lr w wa base g x y gs
 L:LSt w wr x y gs pb PW a0 a1 a2 a3 lv
 par:Av PW (Ci g.pns x.op.past)
 abv:Av [a0,a1,a2,a3] (Bs g.pns x.op.past)
 hlt:lt=late g.pns x.op.past
 hlv:lv=lvl g.pns x.op.past
def addC:PSigma (fun P:Prop=>PLift P→addB.1):=PSigma.mk _ (by
 intro hP;conv=>whnf
 intro t5 t7 t8 t9 t10 t11 t12 t13 t14 t15 t16 t17 t18 t19 t20 t21 t22 t23 t24 t25 t26 t27 t28 t29 t30 t31 t32 t33 t34 t35 t36 t37 t38 t39 t40 t41 t42 t43 t44 t45 t46 t47 t48 t49 t50 t51 t52 t53 t54 t55 t56 t57 t58 t59 t60 t61 t62 t63 t64 t65 t66 t67 t68 t69 t70 t71 t72 t79 t80 t81 t82 t83 t84 t85 t86 t87 t88 t89 t90 t91 t92 t93 t94 t95 t96 t97 t98 t99 t100 t101 t102 t103 t104 t105 t106 t107 t108 t109 t110 t111 t112 t113 t114 t115 t116 t117 t118 t119 t120 t121 t122 t123 t124 t125 t126 t127 t128 t129 t130 t131 t132 t133 t134 t135 t136 t137 t138 t139 t140 t141 t142 t143 t144 t145 t146 t147 t148 t149 t150 t151 t152 t153 t154 t155 t156 t157 t158 t159 t160 t161 t162 t163 t164 t165 t166 t167 t168 t169 t170 t171 t172 t173 t174 t175 t176 t177 t178 t179 t180 t181 t182 t183 t184 t185 t186 t187 t188 t189 t190 t191 t192 t193 t194 t195 t196 t197 t198 t199 t200 t201 t202 t203 t204 t205 t206 t207 t208 t209 t210 t211 t212 t213 t214 t215 t216 t217 t218 t219 t220 t221 t222 t223 t224 t225 t226 t227 t228 t229 t230 t231 t232 t233 base g x w y gs hgw lpast m w6 A6 c6 K hK H;have hg:=H.hg;have hok:=H.hok;have hat:=H.hat;have hlen:=hg.few;have hall:=Lib.hid H.all;have hH:=Lib.hid H;have hpo:x.op.past=x.past:=rfl;obtain ⟨n,hn⟩:=Ab x.past.length;have hnm:n≤1000:=by have h:=hok.past.1;rw [show x.op.past=x.past from rfl,hn.out] at h;exact h
 have L0:LSt w ((w6.alloc (.cells #[.int .u64 0,.int .u64 0,.int .u64 0,.int .u64 0] 96)).alloc (.cells #[.int .u64 0,.int .u64 0,.int .u64 0,.int .u64 0] 96)) x y gs w6.heap.size [0,0,0,0] 0 0 0 0 1:=by
  have f1:Fr Non w6 ((w6.alloc (.cells #[.int .u64 0,.int .u64 0,.int .u64 0,.int .u64 0] 96)).alloc (.cells #[.int .u64 0,.int .u64 0,.int .u64 0,.int .u64 0] 96)):=((Fr.refl Non w6).alloc _).alloc _;have b2:=Blk.new (w6.alloc (.cells #[.int .u64 0,.int .u64 0,.int .u64 0,.int .u64 0] 96)) 96 #[.int .u64 0,.int .u64 0,.int .u64 0,.int .u64 0];rw [Ao2] at b2;exact ⟨H.bx.fr f1 zq,H.bn.fr f1 zq,(Blk.new w6 96 #[.int .u64 0,.int .u64 0,.int .u64 0,.int .u64 0]).alloc _,b2,H.yown.non f1,H.fr.trans f1 zr,hgw,H.bn.lt⟩
 obtain ⟨CX,ax⟩:=Ab x.cells;have e4:Hid (CX[4]? =some (.slice x.pastA n x.pastC)):=by show _=_;rw [← ax.out,← hn.out];rfl
 have x4:((w6.alloc (.cells #[.int .u64 0,.int .u64 0,.int .u64 0,.int .u64 0] 96)).alloc (.cells #[.int .u64 0,.int .u64 0,.int .u64 0,.int .u64 0] 96)).cell? ⟨w.heap.size,4,none⟩=some (.slice x.pastA n x.pastC):=by
  have h:=L0.bx.cell 4;rw [ax.out,e4.out] at h;exact h
 rw [ax.out];clear hpo H;go_upto_region 20 with (fail)
 generalize (w6.alloc (.cells #[.int .u64 0,.int .u64 0,.int .u64 0,.int .u64 0] 96)).alloc (.cells #[.int .u64 0,.int .u64 0,.int .u64 0,.int .u64 0] 96)=w7 at*;obtain ⟨pb,bw⟩:=Ab w6.heap.size;rw [bw.out] at L0 ⊢;go_wp2_with (fail)
 go_loopw [13,82] (fun tv v wr=>∃(k:Nat) (PW:List Nat) (a0 a1 a2 a3 lv:Nat) (lt:Int),tv=.int .i64 lt∧v=.int .i64 (k:Int)∧k≤n∧Hid (Av PW (Ci g.pns (x.past.take k)))∧Hid (Av [a0,a1,a2,a3] (Bs g.pns (x.past.take k)))∧Hid (lt=late g.pns (x.past.take k))∧Hid (lv=lvl g.pns (x.past.take k))∧Hid (LSt w wr x y gs pb PW a0 a1 a2 a3 lv)) (fun _ v _=>n-(intOf v).toNat)
 case atStart=>exact ⟨0,[0,0,0,0],0,0,0,0,1,0,rfl,rfl,by omega,Av.empty,Av.empty,rfl,rfl,L0⟩
 case round=>
  obtain ⟨k,PW,a0,a1,a2,a3,lv,lt,rfl,rfl,hk,ao,ar,a6,au,hL⟩:=hrel
  by_cases hkn:k<n
  ·
   clear hP L0 x4
   as_aux_lemma=>
   have L:=hL.out;have i1:(0:Int)≤k:=by omega
   have i2:(k:Int)<n:=by omega
   have i3:(k:Int).toNat=k:=by omega
   obtain ⟨id,hid⟩:∃z,x.past[k]? =some z:=⟨_,Am8 (by rw [hn.out];exact hkn)⟩;have a4:id.ok:=hok.past.2 id (An7 hid)
   obtain ⟨i,aq⟩:∃i,plc g.pns id=some i:=by
    have h1:=hall.out;rw [Ao4] at h1;have h2:=h1 id (An7 hid)
    cases h3:plc g.pns id with
    |none=>rw [h3] at h2;exact absurd rfl h2
    |some i=>exact ⟨i,rfl⟩
   have al:Ag g.nodes id=some i:=by rw [← aq];exact (Fc g.nodes id).symm
   obtain ⟨nd,ap,_⟩:=Ie al;have b6:i<g.nodes.length:=(List.getElem?_eq_some_iff.1 ap).1;have ah:i<256:=by omega
   have bb:g.pns[i]? =some nd.pn:=by unfold Gph.pns;rw [An4,ap];rfl
   have ae:Hid (Av [nd.a0,nd.a1,nd.a2,nd.a3] nd.past):=(hg.node nd (An7 ap)).set;have bl:=hg.levs nd (An7 ap)
   have aj:Hid (Ci g.pns (x.past.take (k+1))=fun q=>q==i||Ci g.pns (x.past.take k) q):=by
    show _=_;rw [Wr g.pns x.past k hid,aq];funext q;congr 1
    by_cases h:q=i
    · subst h;simp
    ·
     have h':¬i=q:=fun e=>h e.symm;simp only [beq_eq_false_iff_ne.2 h];exact beq_eq_false_iff_ne.2 (fun e=>h' (Option.some.inj e))
   have ai:Hid (Bs g.pns (x.past.take (k+1))=fun q=>Bs g.pns (x.past.take k) q||nd.past q):=by
    show _=_;rw [Ws g.pns x.past k hid];funext q;unfold upB;rw [aq];simp only [bb];rfl
   have a5:Hid (late g.pns (x.past.take (k+1))=max (late g.pns (x.past.take k)) nd.x.at_):=by
    show _=_;rw [P4 g.pns x.past k hid];unfold B2;rw [aq];simp only [bb];rfl
   have aw:Hid (lvl g.pns (x.past.take (k+1))=max (lvl g.pns (x.past.take k)) (nd.lev+1)):=by
    show _=_;rw [Wt g.pns x.past k hid];unfold Bk;rw [aq];simp only [bb];rfl
   obtain ⟨b,ca,hA,b1,d0,d1,d2⟩:=Id.at (hat.past.1.fr L.fr zr) hid;obtain ⟨bn,aa,bh,b3,ag⟩:=hg.cell ap
   have az:∀w',MapAt w' g.mb g.mm (Ag g.nodes)→(Instr.lookup 91 (.map (some g.mb)) (.agg id.V) false).run Tryz.prog w'=.ok (.int .i64 (i:Int)) w':=fun w' h=>by
    have h1:=MapAt.look1 h id a4;rw [al] at h1;exact h1
   have ab:Hid (∀wv,Fr Non w wv→wv.cell? ⟨g.gb,1,none⟩=some (.map (some g.mb))∧wv.cell? ⟨g.gb,2,none⟩=some (.slice (some ⟨bn,aa,none⟩) g.nodes.length g.nC)∧MapAt wv g.mb g.mm (Ag g.nodes)∧
     wv.cell? ⟨bn,aa+i*35+3,none⟩=some (.int .i64 nd.x.at_)∧wv.cell? ⟨bn,aa+i*35+34,none⟩=some (.int .i64 (nd.lev:Int))∧
     wv.cell? ⟨bn,aa+i*35+30,none⟩=some (.int .u64 (nd.a0:Int))∧wv.cell? ⟨bn,aa+i*35+30+1,none⟩=some (.int .u64 (nd.a1:Int))∧wv.cell? ⟨bn,aa+i*35+30+2,none⟩=some (.int .u64 (nd.a2:Int))∧wv.cell? ⟨bn,aa+i*35+30+3,none⟩=some (.int .u64 (nd.a3:Int))):=by
    intro wv hf;have bf:=hg.fr hf;have hc:∀j,j<35→∀u,nd.cells[j]? =some u→wv.cell? ⟨bn,aa+i*35+j,none⟩=some u:=fun j hj u hu=>hf.cell (ag j hj u hu) zq;refine ⟨bf.blk.cell 1,?_,bf.map,hc 3 (by omega) _ rfl,hc 34 (by omega) _ rfl,hc 30 (by omega) _ rfl,hc 31 (by omega) _ rfl,hc 32 (by omega) _ rfl,hc 33 (by omega) _ rfl⟩;rw [← bh];exact bf.blk.cell 2
   have b5:g.gb<w.heap.size:=hg.blk.lt;have b9:g.mb<w.heap.size:=hg.map.lt;have L1:=L.non ((Fr.refl Non wr).alloc (.cells id.V 41));have av:=Blk.new wr 41 id.V;have bg:pb<wr.heap.size:=L.bp.lt;rw [hA];replace hA:=Lib.hid hA;replace bh:=Lib.hid bh;have j1:(0:Int)≤i:=by omega
   have j2:(i:Int)<g.nodes.length:=by omega
   have j3:(i:Int).toNat=i:=by omega
   have j4:IntKind.i64.wrap (i:Int)=i:=IntWalk.i64_in _ (by omega);clear hid aq al ap bb ag hall L b1 hg hat hok b6;go_upto_region 24 with (fail)
   obtain ⟨ib,b7⟩:=Ab wr.heap.size;rw [b7.out] at av bg ⊢;generalize wr.alloc (.cells id.V 41)=w1 at*;have i4:w1.cell? ⟨ib,0,none⟩=some (.int .i64 id.b):=av.cell 0;have i5:w1.cell? ⟨ib,1,none⟩=some (.int .i64 id.s):=av.cell 1;have i6:w1.cell? ⟨ib,2,none⟩=some (.int .u64 (id.u:Int)):=av.cell 2;obtain ⟨c1,c2,ac,-⟩:=ab.out w1 L1.fr;generalize g.nodes.length=nn at*;refine wp_region_held_drew (S:=(fun w'=>w'.cell? ⟨ib,0,none⟩=some (.int .i64 id.b)∧w'.cell? ⟨ib,1,none⟩=some (.int .i64 id.s)∧w'.cell? ⟨ib,2,none⟩=some (.int .u64 (id.u:Int))∧w'.cell? ⟨g.gb,1,none⟩=some (.map (some g.mb))∧w'.cell? ⟨g.gb,2,none⟩=some (.slice (some ⟨bn,aa,none⟩) nn g.nC)∧MapAt w' g.mb g.mm (Ag g.nodes))) (by kernel_rfl) ⟨i4,i5,i6,c1,c2,ac⟩ (fun hHeld=> ?_);clear hHeld;have hS:(fun w'=>w'.cell? ⟨ib,0,none⟩=some (.int .i64 id.b)∧w'.cell? ⟨ib,1,none⟩=some (.int .i64 id.s)∧w'.cell? ⟨ib,2,none⟩=some (.int .u64 (id.u:Int))∧w'.cell? ⟨g.gb,1,none⟩=some (.map (some g.mb))∧w'.cell? ⟨g.gb,2,none⟩=some (.slice (some ⟨bn,aa,none⟩) nn g.nC)∧MapAt w' g.mb g.mm (Ag g.nodes)) w1.drew:=⟨i4,i5,i6,c1,c2,ac⟩;refine tkH 0 hS (h:=tkH 1 hS (h:=tkH 2 hS (h:=tkH 3 hS (h:=tkH 4 hS (h:=tkH 5 hS (h:=tkH 6 hS (h:=tkH 7 hS (h:=tkH 8 hS (h:=tkH 9 hS (h:=tkH 10 hS (h:=tkH 11 hS (h:=?_))))))))))));simp only [List.set];refine oD ?_;go_simp;clear hS c2;have L2:=L1.non ((Fr.refl Non w1).drew);replace i4:w1.drew.cell? ⟨ib,0,none⟩=some (.int .i64 id.b):=i4;replace i5:w1.drew.cell? ⟨ib,1,none⟩=some (.int .i64 id.s):=i5;replace i6:w1.drew.cell? ⟨ib,2,none⟩=some (.int .u64 (id.u:Int)):=i6;replace c1:w1.drew.cell? ⟨g.gb,1,none⟩=some (.map (some g.mb)):=c1;replace ac:MapAt w1.drew g.mb g.mm (Ag g.nodes):=ac;clear L1 av;go_upto_region 25 with (fail)
   generalize w1.drew=w2 at*;refine wp_region_held_drew (S:=(fun w'=>w'.cell? ⟨ib,0,none⟩=some (.int .i64 id.b)∧w'.cell? ⟨ib,1,none⟩=some (.int .i64 id.s)∧w'.cell? ⟨ib,2,none⟩=some (.int .u64 (id.u:Int))∧w'.cell? ⟨g.gb,1,none⟩=some (.map (some g.mb))∧MapAt w' g.mb g.mm (Ag g.nodes))) (by kernel_rfl) ⟨i4,i5,i6,c1,ac⟩ (fun hHeld=> ?_);clear hHeld;have hS:(fun w'=>w'.cell? ⟨ib,0,none⟩=some (.int .i64 id.b)∧w'.cell? ⟨ib,1,none⟩=some (.int .i64 id.s)∧w'.cell? ⟨ib,2,none⟩=some (.int .u64 (id.u:Int))∧w'.cell? ⟨g.gb,1,none⟩=some (.map (some g.mb))∧MapAt w' g.mb g.mm (Ag g.nodes)) w2.drew:=⟨i4,i5,i6,c1,ac⟩;refine tkH 0 hS (h:=tkH 1 hS (h:=tkH 2 hS (h:=tkH 3 hS (h:=tkH 4 hS (h:=tkH 5 hS (h:=?_))))));simp only [List.set];have L3:=L2.non ((Fr.refl Non w2).drew);have ad:w2.drew.cell? ⟨ib,0,none⟩=some (.int .i64 id.b)∧w2.drew.cell? ⟨ib,1,none⟩=some (.int .i64 id.s)∧w2.drew.cell? ⟨ib,2,none⟩=some (.int .u64 (id.u:Int)):=⟨i4,i5,i6⟩;clear L2 hS i4 i5 i6 c1 ac;obtain ⟨w3,bm⟩:=Ab w2.drew;rw [bm.out] at L3 ad ⊢;have af:=Z1 L3.bp ao.out.len;have bv:∀j,j<4→w3.frozen? ⟨pb,0+j,none⟩=false:=fun j _=>L3.bp.frozen _;have kp:=Lib.hid (Ux pb 0 PW (Ci g.pns (x.past.take k)) i w3 ao.out af bv ah)
   have br:Hid (∀qq,LSt w ((w3.drewN qq).setCell ⟨pb,0+i/64,none⟩ (.int .u64 ((PW.getD (i/64) 0|||2^(i%64):Nat):Int))) x y gs pb (PW.set (i/64) (PW.getD (i/64) 0|||2^(i%64))) a0 a1 a2 a3 lv∧Fr (One pb) w3 ((w3.drewN qq).setCell ⟨pb,0+i/64,none⟩ (.int .u64 ((PW.getD (i/64) 0|||2^(i%64):Nat):Int)))):=by
    intro qq;have hf:Fr (One pb) w3 ((w3.drewN qq).setCell ⟨pb,0+i/64,none⟩ (.int .u64 ((PW.getD (i/64) 0|||2^(i%64):Nat):Int))):=((Fr.refl (One pb) w3).drewN qq).setCell (p:=⟨pb,0+i/64,none⟩) (fun _=>rfl) _;exact ⟨L3.par hf (by rw [An2];exact Z2 L3.bp),hf⟩
   have ay:Hid (Av (PW.set (i/64) (PW.getD (i/64) 0|||2^(i%64))) (Ci g.pns (x.past.take (k+1)))):=by
    show Av _ _;rw [aj.out];exact Av.put ao.out ah
   generalize PW.set (i/64) (PW.getD (i/64) 0|||2^(i%64))=PW2 at*;generalize PW.getD (i/64) 0|||2^(i%64)=nv at*;clear af bv L3 ao aj hL;refine oG 6 (fun K hK=> ?_);go_simp;go_wp2_with (go_at_call 64;(with_reducible refine (kp.out).mono ?_);rintro _ w4 ⟨rfl,qq,bu⟩;have bk:=br.out qq;rw [← bu] at bk;clear bu br);obtain ⟨L4,bc⟩:=bk;refine hK.out _ _ ⟨bc.cell ad.1 (by show ¬ib=pb;omega),bc.cell ad.2.1 (by show ¬ib=pb;omega),bc.cell ad.2.2 (by show ¬ib=pb;omega),(ab.out w4 L4.fr).1,(ab.out w4 L4.fr).2.2.1⟩ (fun hZ=> ?_);clear hZ hK K kp bc ad bm w3;try simp only [Aj,List.set]
   refine oD ?_;go_simp;clear az;obtain ⟨-,-,-,-,-,m0,m1,m2,m3⟩:=ab.out w4 L4.fr
   have af:E7 w4 (pb+1) 0 [a0,a1,a2,a3]:=fun j hj=>by
    rw [L4.ba.cell]
    match j,hj with
    |0,_=>rfl
    |1,_=>rfl
    |2,_=>rfl
    |3,_=>rfl
   have kw:=Lib.hid (On (pb+1) 0 96 #[.int .u64 (a0:Int),.int .u64 (a1:Int),.int .u64 (a2:Int),.int .u64 (a3:Int)] [a0,a1,a2,a3] nd.a0 nd.a1 nd.a2 nd.a3 (Bs g.pns (x.past.take k)) nd.past w4 ar.out ae.out L4.ba af)
   have a9:Hid (Av [a0|||nd.a0,a1|||nd.a1,a2|||nd.a2,a3|||nd.a3] (Bs g.pns (x.past.take (k+1)))):=by
    show Av _ _;rw [ai.out];exact Av.or ar.out ae.out
   have bs:Hid (∀w5,Blk w5 (pb+1) 96 (H9 #[.int .u64 (a0:Int),.int .u64 (a1:Int),.int .u64 (a2:Int),.int .u64 (a3:Int)] 0 (orW [a0,a1,a2,a3] [nd.a0,nd.a1,nd.a2,nd.a3]))→Fr (One (pb+1)) w4 w5→LSt w w5 x y gs pb PW2 (a0|||nd.a0) (a1|||nd.a1) (a2|||nd.a2) (a3|||nd.a3) lv):=fun w5 hb hf=>L4.abv hf hb;clear af ar ae L4 ai;go_upto_region 27 with (go_at_call 65;go_loud (with_reducible refine (kw.out).mono ?_);rintro _ w5 ⟨rfl,bj,bt⟩;have L5:=bs.out w5 bj bt;clear bj bt bs kw m0 m1 m2 m3)
   obtain ⟨-,-,-,q3,bq,-,-,-,-⟩:=ab.out w5 L5.fr;obtain ⟨bz,a8⟩:=Ab (max lt nd.x.at_)
   have bi:Hid (bz=late g.pns (x.past.take (k+1))):=by
    show _=_;rw [a5.out,← a8.out,← a6.out]
   clear a5 a6;go_upto_region 28 with (fail)
   clear q3;have s1:w5.cell? ⟨gs,34,none⟩=some (.int .i64 (lv:Int)):=L5.bn.cell 34;have a7:IntKind.i64.wrap ((nd.lev:Int)+1)=(nd.lev:Int)+1:=IntWalk.i64_in _ (by omega);obtain ⟨bd,ak⟩:=Ab (max lv (nd.lev+1))
   have be:Hid (bd=lvl g.pns (x.past.take (k+1))):=by
    show _=_;rw [aw.out,← ak.out,← au.out]
   have bo:Hid (max (lv:Int) ((nd.lev:Int)+1)=(bd:Int)):=by
    show _=_;rw [← ak.out];omega
   clear aw au ak;refine C6 (S:=(fun w'=>w'.cell? ⟨gs,34,none⟩=some (.int .i64 (lv:Int))∧w'.cell? ⟨bn,aa+i*35+34,none⟩=some (.int .i64 (nd.lev:Int)))) 9 (by kernel_rfl) ?_;have hS:(fun w'=>w'.cell? ⟨gs,34,none⟩=some (.int .i64 (lv:Int))∧w'.cell? ⟨bn,aa+i*35+34,none⟩=some (.int .i64 (nd.lev:Int))) w5.drew:=⟨s1,bq⟩;have L6:=L5.non ((Fr.refl Non w5).drew);obtain ⟨w6,b0⟩:=Ab w5.drew;rw [b0.out] at hS L6 ⊢;refine tkG 0 hS (h:=tkG 1 hS (h:=tkG 2 hS (h:=tkG 3 hS (h:=tkG 4 hS (h:=tkG 5 hS (h:=tkG 6 hS (h:=tkG 7 hS (h:=tkG 8 hS (h:=?_)))))))));simp only [List.set];have b8:w6.frozen? ⟨gs,34,none⟩=false:=L6.bn.frozen 34;replace s1:w6.cell? ⟨gs,34,none⟩=some (.int .i64 (lv:Int)):=hS.1;clear hS L5 bq;refine Cy (by kernel_rfl) ?_;refine oG 9 (fun K hK=> ?_);go_simp;refine hK.out _ _ trivial (fun hZ=> ?_);clear hZ hK K;try simp only [Ae,List.set]
   refine oD ?_;go_simp;have L7:=L6.lev bd;rw [← bo.out] at L7;clear L6 b8 s1 a7 bo;go_wp2_with (fail);go_roundw
   case rel=>exact ⟨k+1,PW2,a0|||nd.a0,a1|||nd.a1,a2|||nd.a2,a3|||nd.a3,bd,bz,congrArg _ a8.out,by go_num,by omega,ay,a9,bi,be,L7⟩
   case measure=>simp [intOf];omega
  ·
   obtain rfl:n=k:=by omega
   have ht:x.past.take n=x.op.past:=List.take_of_length_le (by rw [hn.out];exact Nat.le_refl _);rw [ht] at ao ar a6 au;have C:CSt w wr base g x y gs pb PW a0 a1 a2 a3 lv lt w6:=⟨hH.out,hL.out,ao.out,ar.out,a6.out,au.out⟩;clear ao ar a6 au hL hH hall L0 x4 e4 hlen hat hok hg ht hk hkn bw hn hnm hgw lpast;have b4:=ax.out;subst b4;clear ax;go_upto_region 30 with (fail)
   rename_i QQ KB hKB K2 hK2;clear hKB KB QQ;revert C;revert hK2;revert base g x w y gs w6 w7 wr pb PW a0 a1 a2 a3 lv lt n A6 c6 m K2;revert t5 t7 t8 t9 t10 t14 t17 t18 t19 t20 t21 t22 t23 t24 t25 t26 t27 t28 t29 t30 t31 t32 t33 t34 t35 t36 t37 t38 t39 t40 t41 t42 t43 t44 t45 t46 t47 t48 t49 t50 t51 t52 t53 t54 t55 t56 t57 t58 t59 t60 t61 t62 t63 t64 t65 t66 t67 t68 t69 t70 t71 t72 t126 t127 t128 t129 t130 t131 t132 t133 t134 t135 t136 t137 t138 t139 t140 t141 t142 t143 t144 t145 t146 t147 t148 t149 t150 t151 t152 t153 t154 t155 t156 t157 t158 t159 t160 t161 t162 t163 t164 t165 t166 t167 t168 t169 t170 t171 t172 t173 t174 t175 t176 t177 t178 t179 t180 t181 t182 t183 t184 t185 t186 t187 t188 t189 t190 t191 t192 t193 t194 t195 t196 t197 t198 t199 t200 t201 t202 t203 t204 t205 t206 t207 t208 t209 t210 t211 t212 t213 t214 t215 t216 t217 t218 t219 t220 t221 t222 t223 t224 t225 t226 t227 t228 t229 t230 t231 t232 t233 u15 u16 u84 u85 u86 u87 u88 u89 u90 u91 u92 u93 u94 u95 u96 u97 u98 u99 u100 u101 u102 u103 u104 u105 u106 u107 u108 u109 u110 u111 u112 u113 u114 u115 u116 u117 u118 u119 u120 u121 u122 u123 u124 u125;exact hP.down)
theorem Z3 (a0 a1 a2 a3 b0 b1 b2 b3:Int) (w:World):(Op.equalIn 10000 96 (.agg #[.int .u64 a0,.int .u64 a1,.int .u64 a2,.int .u64 a3]) (.agg #[.int .u64 b0,.int .u64 b1,.int .u64 b2,.int .u64 b3])).run Tryz.prog w=.ok (a0==b0&&a1==b1&&a2==b2&&a3==b3) w:=by
 obtain ⟨ht,hinfo,_⟩:=Nz;obtain ⟨i,hi,_⟩:=info_parts hinfo;rw [show (10000:Nat)=9999+1 from rfl,run_equalIn_array w 9999 _ _ Tryz.underlying96 hi,Od,show List.range 4=[0,1,2,3] from rfl];simp only [Op.eqItems];go_simp
 by_cases h1:a0=b0<;>by_cases h2:a1=b1<;>by_cases h3:a2=b2<;>by_cases h4:a3=b3<;>simp [h1,h2,h3,h4]
theorem Z4:Tryz.prog.eqGuardType Tryz.prog.depth 96=false:=by kernel_rfl
theorem Jf (b:Nat):((b:Int)==0)=(b==0):=by
 rw [Bool.eq_iff_iff,beq_iff_eq,beq_iff_eq];omega
structure DSt (w wr:World) (base:Nat) (g:Gph) (x y:OpL) (gs:Nat) (n0 n1 n2 n3 lv:Nat) (wa:World):Prop where
 A:Lr w wa base g x y gs
 bx:Blk wr w.heap.size 67 x.cells
 bn:Blk wr gs 98 (⟨y,x.op.name,n0,n1,n2,n3,lv⟩:Ah).cells.toArray
 yown:y.own wr w.heap.size
 fr:Fr Non w wr
 lo1:w.heap.size<gs
 set:Av [n0,n1,n2,n3] (fun q=>Bs g.pns x.op.past q||Ci g.pns x.op.past q)
 hlv:lv=lvl g.pns x.op.past
 err:Ar g.cards g.pns x.op=if B4 g.pns (Ai g.pns x.op.past) x.op=true then 11 else 0
def addD:PSigma (fun P:Prop=>PLift P→addC.1):=PSigma.mk _ (by
 intro hP;conv=>whnf
 intro s5 s7 s8 s9 s10 s14 s17 s18 s19 s20 s21 s22 s23 s24 s25 s26 s27 s28 s29 s30 s31 s32 s33 s34 s35 s36 s37 s38 s39 s40 s41 s42 s43 s44 s45 s46 s47 s48 s49 s50 s51 s52 s53 s54 s55 s56 s57 s58 s59 s60 s61 s62 s63 s64 s65 s66 s67 s68 s69 s70 s71 s72 s126 s127 s128 s129 s130 s131 s132 s133 s134 s135 s136 s137 s138 s139 s140 s141 s142 s143 s144 s145 s146 s147 s148 s149 s150 s151 s152 s153 s154 s155 s156 s157 s158 s159 s160 s161 s162 s163 s164 s165 s166 s167 s168 s169 s170 s171 s172 s173 s174 s175 s176 s177 s178 s179 s180 s181 s182 s183 s184 s185 s186 s187 s188 s189 s190 s191 s192 s193 s194 s195 s196 s197 s198 s199 s200 s201 s202 s203 s204 s205 s206 s207 s208 s209 s210 s211 s212 s213 s214 s215 s216 s217 s218 s219 s220 s221 s222 s223 s224 s225 s226 s227 s228 s229 s230 s231 s232 s233 s15 s16 s84 s85 s86 s87 s88 s89 s90 s91 s92 s93 s94 s95 s96 s97 s98 s99 s100 s101 s102 s103 s104 s105 s106 s107 s108 s109 s110 s111 s112 s113 s114 s115 s116 s117 s118 s119 s120 s121 s122 s123 s124 s125 base g x w y gs m w6 A6 c6 n w7 pb wv PW a0 a1 a2 a3 lv lt K hK C;have L:=C.L
 obtain ⟨p0,p1,p2,p3,rfl⟩:∃p0 p1 p2 p3,PW=[p0,p1,p2,p3]:=by
  match PW,C.par.len with
  |[p0,p1,p2,p3],_=>exact ⟨p0,p1,p2,p3,rfl⟩
 have ac:Hid (Av [p0&&&a0,p1&&&a1,p2&&&a2,p3&&&a3] (fun k=>Ci g.pns x.op.past k&&Bs g.pns x.op.past k)):=Av.and C.par C.abv;have aj:Hid (Av [a0|||p0,a1|||p1,a2|||p2,a3|||p3] (fun k=>Bs g.pns x.op.past k||Ci g.pns x.op.past k)):=Av.or C.abv C.par;have bd:=C.par.u64;have ay:=C.abv.u64;have hC:=Lib.hid C;have hlt:=Lib.hid C.hlt;have r0:wv.cell? ⟨pb,0,none⟩=some (.int .u64 (p0:Int)):=L.bp.cell 0;have r1:wv.cell? ⟨pb,1,none⟩=some (.int .u64 (p1:Int)):=L.bp.cell 1;have r2:wv.cell? ⟨pb,2,none⟩=some (.int .u64 (p2:Int)):=L.bp.cell 2;have r3:wv.cell? ⟨pb,3,none⟩=some (.int .u64 (p3:Int)):=L.bp.cell 3;have L1:=L.non ((Fr.refl Non wv).alloc (.cells #[.int .u64 (p0:Int),.int .u64 (p1:Int),.int .u64 (p2:Int),.int .u64 (p3:Int)] 96));have af:=Blk.new wv 96 #[.int .u64 (p0:Int),.int .u64 (p1:Int),.int .u64 (p2:Int),.int .u64 (p3:Int)];have bf:pb+1<wv.heap.size:=L.ba.lt;have bc:gs<wv.heap.size:=L.bn.lt;obtain ⟨CX,ag⟩:=Ab x.cells;have e3:Hid (CX[3]? =some (.int .i64 x.at_)):=by show _=_;rw [← ag.out];rfl
 rw [ag.out];obtain ⟨vf,ar⟩:∃vf:Nat→Value,vf=fun k=> .int .u64 (((Kl [p0,p1,p2,p3] [a0,a1,a2,a3]).getD k 0:Nat):Int):=⟨_,rfl⟩
 have ap:Hid (Dp #[.int .u64 (p0:Int),.int .u64 (p1:Int),.int .u64 (p2:Int),.int .u64 (p3:Int)] 0 vf 4=#[.int .u64 ((p0&&&a0:Nat):Int),.int .u64 ((p1&&&a1:Nat):Int),.int .u64 ((p2&&&a2:Nat):Int),.int .u64 ((p3&&&a3:Nat):Int)]):=by
  show _=_;rw [ar];rfl
 have aq:Hid (∀k,k<4→vf k=.int .u64 (bits .and .u64 (([p0,p1,p2,p3].getD k 0:Nat):Int) (([a0,a1,a2,a3].getD k 0:Nat):Int))):=fun k hk=>by
  rw [ar,u64_and_nat _ _ (bd k) (ay k),← Kn _ _ k hk]
 have bj:Hid (∀k,k<4→(#[.int .u64 (p0:Int),.int .u64 (p1:Int),.int .u64 (p2:Int),.int .u64 (p3:Int)]:Array Value)[k]? =some (.int .u64 (([p0,p1,p2,p3].getD k 0:Nat):Int))):=fun k hk=>by
  match k,hk with
  |0,_=>rfl
  |1,_=>rfl
  |2,_=>rfl
  |3,_=>rfl
 clear ar bd ay C L;go_upto_region 31 with (fail)
 obtain ⟨bb,be⟩:=Ab wv.heap.size;rw [be.out] at af bf bc ⊢;generalize wv.alloc (.cells #[.int .u64 (p0:Int),.int .u64 (p1:Int),.int .u64 (p2:Int),.int .u64 (p3:Int)] 96)=w1 at*
 have a6:Hid (∀k,k<4→w1.cell? ⟨pb+1,k,none⟩=some (.int .u64 (([a0,a1,a2,a3].getD k 0:Nat):Int))):=fun k hk=>by
  rw [L1.ba.cell]
  match k,hk with
  |0,_=>rfl
  |1,_=>rfl
  |2,_=>rfl
  |3,_=>rfl
 clear r0 r1 r2 r3;go_wp2_with (fail)
 go_loopw [127] (fun v wr=>∃i:Nat,v=.int .i64 (i:Int)∧i≤4∧Blk wr bb 96 (Dp #[.int .u64 (p0:Int),.int .u64 (p1:Int),.int .u64 (p2:Int),.int .u64 (p3:Int)] 0 vf i)∧Fr (One bb) w1 wr) (fun v _=>4-(intOf v).toNat)
 case atStart=>exact ⟨0,rfl,by omega,af,Fr.refl _ _⟩
 case round=>
  obtain ⟨i,rfl,bl,ab,hf⟩:=hrel
  by_cases hi:i<4
  ·
   clear hP L1 af hC hlt ac aj e3 ap
   as_aux_lemma=>
   have i1:(0:Int)≤i:=by omega
   have i2:(i:Int)<4:=by omega
   have i3:(i:Int).toNat=i:=by omega
   have i4:IntKind.i64.wrap (i:Int)=i:=IntWalk.i64_in _ (by omega);have c1:wr.cell? ⟨bb,i,none⟩=some (.int .u64 (([p0,p1,p2,p3].getD i 0:Nat):Int)):=by rw [ab.cell,Om _ _ _ _ _ (by omega)];exact bj.out i hi
   have c2:wr.cell? ⟨pb+1,i,none⟩=some (.int .u64 (([a0,a1,a2,a3].getD i 0:Nat):Int)):=hf.cell (a6.out i hi) (by show ¬pb+1=bb;omega);have z1:=ab.frozen i;have bq:=Lib.hid (aq.out i hi);generalize [p0,p1,p2,p3].getD i 0=pi at*;generalize [a0,a1,a2,a3].getD i 0=ai at*;go_upto_region 34 with (fail)
   refine C6 (S:=(fun w'=>w'.cell? ⟨bb,i,none⟩=some (.int .u64 (pi:Int))∧w'.cell? ⟨pb+1,i,none⟩=some (.int .u64 (ai:Int)))) 8 (by kernel_rfl) ?_;have hS:(fun w'=>w'.cell? ⟨bb,i,none⟩=some (.int .u64 (pi:Int))∧w'.cell? ⟨pb+1,i,none⟩=some (.int .u64 (ai:Int))) wr.drew:=⟨c1,c2⟩;replace c1:wr.drew.cell? ⟨bb,i,none⟩=some (.int .u64 (pi:Int)):=c1;replace z1:wr.drew.frozen? ⟨bb,i,none⟩=false:=z1;replace ab:Blk wr.drew bb 96 (Dp #[.int .u64 (p0:Int),.int .u64 (p1:Int),.int .u64 (p2:Int),.int .u64 (p3:Int)] 0 vf i):=ab;replace hf:=hf.drew;generalize wr.drew=w2 at*;refine tkG 0 hS (h:=tkG 1 hS (h:=tkG 2 hS (h:=tkG 3 hS (h:=tkG 4 hS (h:=tkG 5 hS (h:=tkG 6 hS (h:=tkG 7 hS (h:=?_))))))));simp only [List.set];refine Cy (by kernel_rfl) ?_;refine oG 8 (fun K hK=> ?_);go_simp;refine hK.out _ _ trivial (fun hZ=> ?_);clear hZ hK K;try simp only [Ae,List.set]
   refine oD ?_;go_simp
   have ak:Blk (w2.setCell ⟨bb,i,none⟩ (vf i)) bb 96 (Dp #[.int .u64 (p0:Int),.int .u64 (p1:Int),.int .u64 (p2:Int),.int .u64 (p3:Int)] 0 vf (i+1)):=by
    have h1:=ab.set (0+i) (vf i);rw [An2] at h1;show Blk _ _ _ ((Dp #[.int .u64 (p0:Int),.int .u64 (p1:Int),.int .u64 (p2:Int),.int .u64 (p3:Int)] 0 vf i).setIfInBounds (0+i) (vf i));rw [An2];exact h1
   have ax:=hf.setOne i (vf i);rw [bq.out] at ak ax;clear ab hf hS c1 c2 z1 aq;go_wp2_with (fail);go_roundw
   case rel=>exact ⟨i+1,by go_num,by omega,ak,ax⟩
   case measure=>simp [intOf];omega
  ·
   obtain rfl:i=4:=by omega
   rw [ap.out] at ab
   have L2:LSt w wr x y gs pb [p0,p1,p2,p3] a0 a1 a2 a3 lv:=by
    have h1:=L1.lo1;have h2:=L1.lo2;have hw:w.heap.size<bb:=by omega
    exact ⟨L1.bx.fr hf (by unfold One;omega),L1.bn.fr hf (by unfold One;omega),L1.bp.fr hf (by unfold One;omega),L1.ba.fr hf (by unfold One;omega),L1.yown.keepP hf (Types.one af) (by decide) (by decide) (by decide) (by decide) (by decide) (by decide) (by decide),L1.fr.trans hf (fun k hk e=>by have e':k=bb:=e;omega),h1,h2⟩
   have hz:=Wy ac.out;obtain ⟨b0,a7⟩:=Ab (p0&&&a0);obtain ⟨b1,bi⟩:=Ab (p1&&&a1);obtain ⟨b2,ak⟩:=Ab (p2&&&a2);obtain ⟨b3,av⟩:=Ab (p3&&&a3);rw [a7.out,bi.out,ak.out,av.out] at ab hz;obtain ⟨cl,ah⟩:=Ab (clash g.pns x.op.past)
   have bm:∀w',(Op.equalIn 10000 96 (.agg #[.int .u64 (b0:Int),.int .u64 (b1:Int),.int .u64 (b2:Int),.int .u64 (b3:Int)]) (.agg #[.int .u64 0,.int .u64 0,.int .u64 0,.int .u64 0])).run Tryz.prog w'=.ok (!cl) w':=fun w'=>by
    rw [Z3,Jf,Jf,Jf,Jf,hz,← ah.out];rfl
   have hm:=Z4;have k0:wr.cell? ⟨bb,0,none⟩=some (.int .u64 (b0:Int)):=ab.cell 0;have k1:wr.cell? ⟨bb,1,none⟩=some (.int .u64 (b1:Int)):=ab.cell 1;have k2:wr.cell? ⟨bb,2,none⟩=some (.int .u64 (b2:Int)):=ab.cell 2;have k3:wr.cell? ⟨bb,3,none⟩=some (.int .u64 (b3:Int)):=ab.cell 3
   have x3:wr.cell? ⟨w.heap.size,3,none⟩=some (.int .i64 x.at_):=by
    have h:=L2.bx.cell 3;rw [ag.out,e3.out] at h;exact h
   clear hz a7 bi ak av ab hf L1 af a6 aq bj ap hi bl ac;go_upto_region 36 with (fail)
   obtain ⟨bad,aa⟩:=Ab (cl||decide (x.at_<lt))
   go_cut [147] from 139 to 147 (fun s wc=>wr=wc∧s=.bool bad)
   case first=>
    clear hP L2 hC hlt aj e3
    as_aux_lemma=>
    cases cl
    ·
     have hv:Hid (decide (x.at_<lt)=bad):=by show _=_;rw [← aa.out];rfl
     go_wp2_with (fail);go_meet;exact ⟨rfl,congrArg Value.bool hv.out⟩
    ·
     have hv:Hid (true=bad):=by show _=_;rw [← aa.out];rfl
     go_wp2_with (fail);go_meet;exact ⟨rfl,congrArg Value.bool hv.out⟩
   case rest=>
   obtain ⟨rfl,rfl⟩:=hcut;clear k0 k1 k2 k3 x3 bm hm
   cases bad
   case true=>
    have bo:=Lib.hid (AddPost.bad (base:=base) (w':=wr) (by
     rw [hC.out.A.err,if_pos (by
      have h1:=aa.out;rw [Bool.or_eq_true,decide_eq_true_iff] at h1;rw [ah.out,← hlt.out];exact h1)]) (by decide) L2.fr)
    clear hP hC hlt L2 aj aa ah
    as_aux_lemma=>
    go_wp2_with (fail)
    go_ret
    exact bo.out
   case false=>
    have ae:Hid (Ar g.cards g.pns x.op=if B4 g.pns (Ai g.pns x.op.past) x.op=true then 11 else 0):=by
     show _=_
     rw [hC.out.A.err,if_neg (by
      have h1:=aa.out;rw [Bool.or_eq_false_iff,decide_eq_false_iff_not] at h1;rw [ah.out,← hlt.out,h1.1];intro h2
      rcases h2 with h2|h2
      · cases h2
      · exact h1.2 h2)]
    clear aa ah hlt;have m0:wr.cell? ⟨pb+1,0,none⟩=some (.int .u64 (a0:Int)):=L2.ba.cell 0;have m1:wr.cell? ⟨pb+1,1,none⟩=some (.int .u64 (a1:Int)):=L2.ba.cell 1;have m2:wr.cell? ⟨pb+1,2,none⟩=some (.int .u64 (a2:Int)):=L2.ba.cell 2;have m3:wr.cell? ⟨pb+1,3,none⟩=some (.int .u64 (a3:Int)):=L2.ba.cell 3;have y0:wr.cell? ⟨gs,30,none⟩=some (.int .u64 0):=L2.bn.cell 30;have y1:wr.cell? ⟨gs,31,none⟩=some (.int .u64 0):=L2.bn.cell 31;have y2:wr.cell? ⟨gs,32,none⟩=some (.int .u64 0):=L2.bn.cell 32;have y3:wr.cell? ⟨gs,33,none⟩=some (.int .u64 0):=L2.bn.cell 33;have z0:wr.frozen? ⟨gs,30,none⟩=false:=L2.bn.frozen 30;have z1:wr.frozen? ⟨gs,31,none⟩=false:=L2.bn.frozen 31;have z2:wr.frozen? ⟨gs,32,none⟩=false:=L2.bn.frozen 32;have z3:wr.frozen? ⟨gs,33,none⟩=false:=L2.bn.frozen 33;have al:=L2.lo1;have au:=L2.lo2;have fN:Fr (One gs) wr ((((wr.setCell ⟨gs,30,none⟩ (.int .u64 (a0:Int))).setCell ⟨gs,31,none⟩ (.int .u64 (a1:Int))).setCell ⟨gs,32,none⟩ (.int .u64 (a2:Int))).setCell ⟨gs,33,none⟩ (.int .u64 (a3:Int))):=((((Fr.refl (One gs) wr).setOne 30 _).setOne 31 _).setOne 32 _).setOne 33 _;have bN:Blk ((((wr.setCell ⟨gs,30,none⟩ (.int .u64 (a0:Int))).setCell ⟨gs,31,none⟩ (.int .u64 (a1:Int))).setCell ⟨gs,32,none⟩ (.int .u64 (a2:Int))).setCell ⟨gs,33,none⟩ (.int .u64 (a3:Int))) gs 98 (⟨y,x.op.name,a0,a1,a2,a3,lv⟩:Ah).cells.toArray:=(((L2.bn.set 30 _).set 31 _).set 32 _).set 33 _;have aw:=L2.bx.fr fN (by unfold One;omega);have ad:=L2.bp.fr fN (by unfold One;omega);have yN:=L2.yown.keepP fN (Types.one L2.bn) (by decide) (by decide) (by decide) (by decide) (by decide) (by decide) (by decide);have bg:Fr Non w ((((wr.setCell ⟨gs,30,none⟩ (.int .u64 (a0:Int))).setCell ⟨gs,31,none⟩ (.int .u64 (a1:Int))).setCell ⟨gs,32,none⟩ (.int .u64 (a2:Int))).setCell ⟨gs,33,none⟩ (.int .u64 (a3:Int))):=L2.fr.trans fN (fun k hk e=>by have e':k=gs:=e;omega);clear L2;go_upto_region 39 with (fail)
    clear m0 m1 m2 m3 y0 y1 y2 y3 z0 z1 z2 z3 fN;generalize ((((wr.setCell ⟨gs,30,none⟩ (.int .u64 (a0:Int))).setCell ⟨gs,31,none⟩ (.int .u64 (a1:Int))).setCell ⟨gs,32,none⟩ (.int .u64 (a2:Int))).setCell ⟨gs,33,none⟩ (.int .u64 (a3:Int)))=w3 at*;have r0:w3.cell? ⟨pb,0,none⟩=some (.int .u64 (p0:Int)):=ad.cell 0;have r1:w3.cell? ⟨pb,1,none⟩=some (.int .u64 (p1:Int)):=ad.cell 1;have r2:w3.cell? ⟨pb,2,none⟩=some (.int .u64 (p2:Int)):=ad.cell 2;have r3:w3.cell? ⟨pb,3,none⟩=some (.int .u64 (p3:Int)):=ad.cell 3
    have ao:E7 w3 gs 30 [a0,a1,a2,a3]:=fun j hj=>by
     rw [bN.cell]
     match j,hj with
     |0,_=>rfl
     |1,_=>rfl
     |2,_=>rfl
     |3,_=>rfl
    have kw:=Lib.hid (On gs 30 98 _ [a0,a1,a2,a3] p0 p1 p2 p3 _ _ w3 hC.out.abv hC.out.par bN ao)
    have hD:Hid (∀w4,Blk w4 gs 98 (H9 (⟨y,x.op.name,a0,a1,a2,a3,lv⟩:Ah).cells.toArray 30 (orW [a0,a1,a2,a3] [p0,p1,p2,p3]))→Fr (One gs) w3 w4→DSt w w4 base g x y gs (a0|||p0) (a1|||p1) (a2|||p2) (a3|||p3) lv w6):=by
     intro w4 hb hf;exact ⟨hC.out.A,aw.fr hf (by unfold One;omega),hb,yN.keepP hf (Types.one bN) (by decide) (by decide) (by decide) (by decide) (by decide) (by decide) (by decide),bg.trans hf (fun k hk e=>by have e':k=gs:=e;omega),al,aj.out,hC.out.hlv,ae.out⟩
    clear ao bN aw ad yN bg hC aj ae al au;go_upto_region 40 with (go_at_call 65;(with_reducible refine (kw.out).mono ?_);rintro _ w4 ⟨rfl,a5,az⟩)
    have D:=hD.out w4 a5 az;clear hD a5 az kw r0 r1 r2 r3;obtain ⟨n0,bh⟩:=Ab (a0|||p0);obtain ⟨n1,a9⟩:=Ab (a1|||p1);obtain ⟨n2,a8⟩:=Ab (a2|||p2);obtain ⟨n3,a4⟩:=Ab (a3|||p3);rw [bh.out,a9.out,a8.out,a4.out] at D;clear bh a9 a8 a4 e3 bc bf be;rename_i QQ KB hKB K2 hK2;clear hKB KB QQ;have bk:=ag.out;subst bk;clear ag;revert D;revert hK2;revert base g x w y gs m w6 A6 c6 n w7 pb wv a0 a1 a2 a3 lv lt p0 p1 p2 p3 n0 n1 n2 n3 bb w1 wr b0 b1 b2 b3 cl w3 w4 K2;revert s5 s7 s8 s9 s10 s14 s15 s16 s19 s20 s21 s22 s23 s24 s25 s26 s27 s28 s29 s30 s31 s32 s33 s34 s35 s36 s37 s38 s39 s40 s41 s42 s43 s44 s45 s46 s47 s48 s49 s50 s51 s52 s53 s54 s55 s56 s57 s58 s59 s60 s61 s62 s63 s64 s65 s66 s67 s68 s69 s70 s71 s72 s84 s85 s86 s87 s88 s89 s90 s91 s92 s93 s94 s95 s96 s97 s98 s99 s100 s101 s102 s103 s104 s105 s106 s107 s108 s109 s110 s111 s112 s113 s114 s115 s116 s117 s118 s119 s120 s121 s122 s123 s124 s125 s152 s153 s154 s155 s156 s157 s158 s159 s160 s161 s162 s163 s164 s165 s166 s167 s168 s169 s170 s171 s172 s173 s174 s175 s176 s177 s178 s179 s180 s181 s182 s183 s184 s185 s186 s187 s188 s189 s190 s191 s192 s193 s194 s195 s196 s197 s198 s199 s200 s201 s202 s203 s204 s205 s206 s207 s208 s209 s210 s211 s212 s213 s214 s215 s216 s217 s218 s219 s220 s221 s222 s223 s224 s225 s226 s227 s228 s229 s230 s231 s232 s233 u18 u128 u129 u130 u131 u132 u133 u134 u135 u136 u137 u138 u139 u140 u141 u142 u143 u144 u145 u146;exact hP.down)
end Oq
end
section
open Go.RowKit
theorem Own.block {w:World} {base size n c:Nat} {t:TypeId} {A:Option Addr} {xs:List Value} (h:Own w base t size A n c xs) {k:Nat} (hk:Ac A=some k):∃cs fr,w.heap[k]? =some (.cells cs t fr):=by
 rcases h.2 with ⟨hv,_⟩|⟨g,cap,cur,hv,_,hg,_⟩
 ·
  injection hv with hA
  subst hA
  cases hk
 ·
  injection hv with hA
  subst hA;injection hk with hk
  subst hk;exact ⟨_,_,hg⟩
theorem Own.keepT {S:Nat→Prop} {w w':World} {base size n c:Nat} {t:TypeId} {A:Option Addr} {xs:List Value} {P:TypeId→Prop} (h:Own w base t size A n c xs) (hf:Fr S w w') (hS:Oq.Types S w P) (ht:¬P t):Own w' base t size A n c xs:=
 h.fr hf (fun k hk e=>by
  obtain ⟨cs,fr,hb⟩:=h.block hk;exact ht (hS _ _ _ _ hb e))
namespace Oq
theorem MapAt.ismap {w:World} {b m:Nat} {f:Id→Option Nat} (h:MapAt w b m f):∀cs t fr,w.heap[b]? ≠some (.cells cs t fr):=by
 intro cs t fr e;obtain ⟨n,D,ho,_⟩:=h;obtain ⟨es,clock,hbl,_⟩:=ho;rw [e] at hbl
 cases hbl
theorem Lu {o:Op} (h:o.ok):o.name.ok:=by
 have hu:=Ls o;unfold Op.name;generalize o.id=u at*;exact ⟨h.by_,h.sq,hu⟩
def Gty (t:TypeId):Prop:=t=94∨t=98
theorem GAt.types {w:World} {base:Nat} {g:Gph} (h:GAt w base g):Types g.own w Gty:=by
 intro k cs t fr hk e
 rcases e with e|e|e
 ·
  subst e;have h1:=h.blk;unfold Blk at h1;rw [hk] at h1;injection h1 with h1
  injection h1 with _ h2
  exact .inl h2
 ·
  subst e;exact absurd hk (h.map.ismap _ _ _)
 · exact .inr (Types.row h.own k cs t fr hk e)
theorem Z5 {l:List Ah} {n:Ah} (h:Ag l n.id=none) (y:Id):(if y=n.id then some l.length else Ag l y)=Ag (l++[n]) y:=by
 unfold Ag at*;rw [List.findIdx?_append]
 by_cases e:y=n.id
 ·
  subst e;rw [if_pos rfl,h];simp
 ·
  rw [if_neg e]
  have h2:([n].findIdx? (fun m=>decide (m.id=y)))=none:=by
   simp [List.findIdx?_cons,show ¬n.id=y from fun e2=>e e2.symm]
  rw [h2]
  cases l.findIdx? (fun m=>decide (m.id=y))<;>simp
theorem Rn:SlT Tryz.prog 92 98 (.agg zN) 35 392:=⟨Tryz.underlying92,by kernel_rfl,rfl,by decide⟩
theorem Z6 {w w4 wd w5 w6 w7 wa:World} {base:Nat} {g:Gph} {x y:OpL} {gs n0 n1 n2 n3 lv:Nat} {A':Option Addr} {c':Nat} (hg:GAt w base g) (D:DSt w w4 base g x y gs n0 n1 n2 n3 lv wa) (herr:Ar g.cards g.pns x.op=0)
  (fd:Fr Non w4 wd) (hm:MapAt w5 g.mb (g.mm+1) (fun z=>if z=x.op.name then some g.nodes.length else Ag g.nodes z)) (f5:Fr (One g.mb) wd w5) (f6:Fr Non w5 w6)
  (own7:Own w7 base 98 35 A' (g.nodes.length+1) c' (g.nodes.flatMap Ah.cells++(⟨y,x.op.name,n0,n1,n2,n3,lv⟩:Ah).cells)) (f7:Fr (fun k=>Ac g.nA=some k) w6 w7) (hat:Ac A'=Ac g.nA∨Ac A'=some w6.heap.size):
  AddPost base g x.op w (.returned (.int .i64 0)) (w7.setCell ⟨g.gb,2,none⟩ (.slice A' (g.nodes.length+1) c')):=by
 obtain ⟨N,hN⟩:∃N:Ah,N=⟨y,x.op.name,n0,n1,n2,n3,lv⟩:=⟨_,rfl⟩;have aa:N.id=x.op.name:=by rw [hN]
 have ah:N.ws=[n0,n1,n2,n3]:=by rw [hN];rfl
 rw [← hN] at own7;have ax:=hg.blk.lt;have af:base≤w.heap.size:=Nat.le_trans hg.gbase (An5 ax);have ai:Fr Non w wd:=D.fr.trans fd zr;have aw:=hg.fr ai;have ty:=hg.types
 have ac:g.gb≠g.mb:=fun e=>by
  have h1:=hg.blk;unfold Blk at h1;rw [e] at h1;exact hg.map.ismap _ _ _ h1
 have ap:¬Ac g.nA=some g.mb:=fun e=>by
  obtain ⟨cs,fr,hb⟩:=hg.own.block e;exact hg.map.ismap _ _ _ hb
 have aq:¬Ac g.nA=some g.gb:=hg.own.ne hg.blk (by decide)
 have ab:∀{w0:World},Fr Non w0 wd→Fr g.own w0 (w7.setCell ⟨g.gb,2,none⟩ (.slice A' (g.nodes.length+1) c')):=by
  intro w0 h0;have F5:Fr g.own w0 w5:=(Fr.of_non h0 g.own).trans f5 (fun i _ e=> .inr (.inl e));have F6:Fr g.own w0 w6:=F5.trans f6 (fun _ _ e=>e.elim);have F7:Fr g.own w0 w7:=F6.trans f7 (fun i _ e=> .inr (.inr e));exact F7.setCell (p:=⟨g.gb,2,none⟩) (fun _=> .inl rfl) _
 have F8:=ab ai;have av:=ab fd;have au:=(hg.fr D.fr).types
 have b7:Blk w7 g.gb 94 #[.slice g.cA g.cards.length g.cC,.map (some g.mb),.slice g.nA g.nodes.length g.nC]:=
  ((aw.blk.fr f5 (fun e=>ac e)).fr f6 zq).fr f7 aq
 have ag:Ac A'≠some g.gb:=own7.ne b7 (by decide);have fz:Fr (One g.gb) w7 (w7.setCell ⟨g.gb,2,none⟩ (.slice A' (g.nodes.length+1) c')):=(Fr.refl _ _).setOne 2 _;have m8:=(((hm.fr f6 zq).fr f7 ap).fr fz (fun e=>ac e.symm))
 have ak:Ag g.nodes N.id=none:=by
  rw [aa,← Fc];exact D.A.new
 have ao:MapAt (w7.setCell ⟨g.gb,2,none⟩ (.slice A' (g.nodes.length+1) c')) g.mb (g.mm+1) (Ag (g.nodes++[N])):=by
  have e:(fun z=>if z=x.op.name then some g.nodes.length else Ag g.nodes z)=Ag (g.nodes++[N]):=by
   funext z;rw [← aa];exact Z5 ak z
  rw [← e];exact m8
 have ad:(g.nodes++[N]).length=g.nodes.length+1:=by simp
 have al:lv≤g.nodes.length+1:=by
  rw [D.hlv];refine Wu g.pns g.nodes.length (fun n hn=> ?_) _;obtain ⟨m,hm,rfl⟩:=List.mem_map.1 hn;exact hg.levs m hm
 have ae:Av N.ws N.past:=by
  rw [ah];refine ⟨rfl,D.set.u64,fun n hn=> ?_⟩;unfold Ah.past;rw [ah]
 have aj:N.past=Ai g.pns x.op.past:=by
  have h1:Av N.ws (fun q=>Bs g.pns x.op.past q||Ci g.pns x.op.past q):=by rw [ah];exact D.set
  rw [Wx h1];rfl
 have ar:N.okAt (w7.setCell ⟨g.gb,2,none⟩ (.slice A' (g.nodes.length+1) c')) base:=by
  refine ⟨?_,?_,?_,ae⟩
  ·
   rw [hN];exact (D.yown.keepP av au (by unfold Gty;decide) (by unfold Gty;decide) (by unfold Gty;decide) (by unfold Gty;decide) (by unfold Gty;decide) (by unfold Gty;decide) (by unfold Gty;decide)).lower af
  ·
   have h1:N.x.op=x.op:=by rw [hN];exact D.A.yop
   rw [h1];exact D.A.hok
  ·
   rw [aa];exact Lu D.A.hok
 refine ⟨by rw [herr],.inr ⟨herr,⟨g.gb,g.mb,g.mm+1,g.cA,g.cC,g.cards,A',c',g.nodes++[N]⟩,?_,rfl,rfl,rfl,?_,F8,?_,N,rfl,?_⟩⟩
 ·
  refine ⟨?_,hg.pos,hg.gbase,hg.mbase,hg.crow.keepT F8 ty (by unfold Gty;decide),?_,?_,?_,?_,hg.cfew,hg.cok,ao,?_⟩
  ·
   show Blk _ g.gb _ #[.slice g.cA g.cards.length g.cC,.map (some g.mb),.slice A' (g.nodes++[N]).length c'];rw [ad];exact b7.set 2 _
  ·
   show Own _ base 98 35 A' (g.nodes++[N]).length c' ((g.nodes++[N]).flatMap Ah.cells);rw [ad,List.flatMap_append,List.flatMap_cons,List.flatMap_nil,List.append_nil];exact own7.setOne ag
  ·
   show (g.nodes++[N]).length≤200;have:=D.A.few;omega
  ·
   show g.mm+1≤(g.nodes++[N]).length;have:=hg.mfew;omega
  ·
   intro n hn;show n.lev≤(g.nodes++[N]).length;rw [ad]
   rcases List.mem_append.1 hn with hn|hn
   ·
    have:=hg.levs n hn;omega
   ·
    obtain rfl:=List.mem_singleton.1 hn;rw [hN];exact al
  ·
   intro n hn
   rcases List.mem_append.1 hn with hn|hn
   ·
    have k:=hg.node n hn;exact ⟨k.own.keepP F8 ty (by unfold Gty;decide) (by unfold Gty;decide) (by unfold Gty;decide) (by unfold Gty;decide) (by unfold Gty;decide) (by unfold Gty;decide) (by unfold Gty;decide),k.ok,k.id,k.set⟩
   ·
    obtain rfl:=List.mem_singleton.1 hn;exact ar
 ·
  show (g.nodes++[N]).map Ah.pn=g.nodes.map Ah.pn++[As g.pns x.op];rw [List.map_append,List.map_cons,List.map_nil];congr 2;unfold Ah.pn As;rw [aj,aa];congr 1
  ·
   rw [hN];exact D.A.yop
  ·
   rw [hN];exact D.hlv
 ·
  intro k hk e
  rcases e with e|e|e
  · exact .inl e
  · exact .inr (.inl e)
  ·
   refine .inr (.inr ?_);have e':Ac A'=some k:=e
   rcases hat with h1|h1
   ·
    rw [← h1];exact e'
   ·
    rw [h1] at e';injection e' with e'
    have:=(ai.size);have h5:=f5.size;have h6:=f6.size;omega
 ·
  rw [hN];exact D.yown.keepP av au (by unfold Gty;decide) (by unfold Gty;decide) (by unfold Gty;decide) (by unfold Gty;decide) (by unfold Gty;decide) (by unfold Gty;decide) (by unfold Gty;decide)
end Oq
end
section
open Go.RowKit
attribute [local go_sem ↓] Go.wp_at_zero Go.wp_at_succ
namespace Oq
attribute [local go_sem] Am9 An0
theorem Z7 {l:List Pn} {p:Nat→Bool} {d:Int} {k:Nat} {n:Pn} (h:l[k]? =some n):Ao l p d (k+1)=if (n.o.by_==d&&p k)=true then max (Ao l p d k) n.o.sq else Ao l p d k:=by
 show (match l[k]? with|some n=>if (n.o.by_==d&&p k)=true then max (Ao l p d k) n.o.sq else Ao l p d k|none=>Ao l p d k)=_;rw [h]
theorem Z8 {l:List Pn} {p:Nat→Bool} {d s:Int} {k:Nat} {n:Pn} (h:l[k]? =some n):Cv l p d s (k+1)=(Cv l p d s k||(n.o.by_==d&&p k&&n.o.sq==s-1)):=by
 show (match l[k]? with|some n=>Cv l p d s k||(n.o.by_==d&&p k&&n.o.sq==s-1)|none=>Cv l p d s k)=_;rw [h]
theorem Z9 {o:Op} (h:o.chk=0):1≤o.sq∧o.sq≤2147483647:=by
 have h1:=(chk_ok.1 h).2.2.1;unfold Op.numsB at h1;simp only [Ao6] at h1;have h2:=h1.1.1.2;unfold inR at h2;simpa using h2
def bsS (t:TypeId) (len:Nat) (parts:Array (Nat × Value)):=Instr.buildSlice t len parts
theorem Aa0 (n:Nat) (p:Array (Nat × Value)):Instr.buildSlice 92 n p=bsS 92 n p:=rfl
theorem Aa1 (N:Ah) (w:World):(bsS 92 1 #[(0,.agg N.cells.toArray)]).run Tryz.prog w=.ok (.slice (some ⟨w.heap.size,0,none⟩) 1 1) (w.alloc (.cells N.cells.toArray 98)):=by
 obtain ⟨ht,hinfo,_⟩:=Rn;obtain ⟨i,hi,hz,hs,_⟩:=info_parts hinfo;exact run_buildSlice w 92 98 1 _ _ i _ ht hi hz (by rw [hs];decide) (by rw [hs];decide) (by rw [hs];kernel_rfl)
theorem Aa2 {P:Program} {o:Oper} {a:Act} {K:Act→World→Prop} {Q:Exit→Act→World→Prop} {w:World} (s x:Operand) (t:TypeId)
  (ho:o.op=.call {callee:=.builtin .append,args:=#[s,x],argTypes:=#[t,t]})
  {base size n c:Nat} {e:TypeId} {A:Option Addr} {xs:List Value} {z:Value} {bytes m cx B:Nat} {Ax:Option Addr} {news:List Value}
  (hs:a.eval s=.slice A n c) (hx:a.eval x=.slice Ax m cx)
  (hT:SlT P t e z size bytes) (h:Own w base e size A n c xs) (hr:Rd w B size Ax m news)
  (h1:∀u∈news,u.oneCell'=true) (hbytes:(n+m)*bytes≤140737488355328) (hmax:n+m≤9223372036854775807) (hbase:base≤w.heap.size)
  (hk:∀A' c' w',Own w' base e size A' (n+m) c' (xs++news)→Fr (fun k=>Ac A=some k) w w'→(Ac A'=Ac A∨Ac A'=some w.heap.size)→
   K (a.put o.dst (.slice A' (n+m) c')) w'):Oper.wp P o a w K Q:=by
 obtain ⟨A',c',w',hrun,h2,h3,h4⟩:=Gw (P:=P) (ty:=o.type) (cx:=cx) hT h hr h1 hbytes hmax hbase;unfold Oper.wp execOp;simp only [ho,resolve,invoke,builtin,Sem.run_bind,Sem.run_pure,Result.andThen_ok,List.map_toArray,List.map_cons,List.map_nil,hs,hx,hrun];exact hk A' c' w' h2 h3 h4
attribute [local go_sem ↓] I4 I5 Aa0
theorem Aa3:addD.1:=by
 conv=>whnf
 intro r5 r7 r8 r9 il jn i0 io im hw iu g1 gz jk jo i6 g8 ha he i7 iq ie g2 jg iy g0 g3 iz i5 jh jb hr ir h6 h9 ia ii ji ho gy h4 i8 g7 jd hp hy h5 hn h2 jj i9 g9 ih h3 ij iw g5 hh ic hc dx gr fv gt ev e7 en gq gc ek dc da dr cv f8 dp ey gk cz gh eg cx dt ee ft dw fh cp dl f2 ga d7 ei gx fk er dd cy ff fx d3 d5 gp d4 gi d8 e5 dg d2 c0 dv gm e2 cq ed fn ef fz f3 d6 c9 ea di cr gj gu c4 gv gw f4 et fb ck dy d9 e8 eh fl e6 dq gd db jc hl ht ib h8 hd hm hs je jf ix g6 ja ik jl jm h7 g4 fc df d0 gl fy cm fg dj ge ec cw dz e4 fs f0 du ej cn cu gf gg fw ct ez fj dk ip f9 d1 eo fq c3 fu ew co el fm eu dn gn fo c8 em eb ep de base g x w y gs m w6 A6 c6 n w7 pb wv a0 a1 a2 a3 lv lt p0 p1 p2 p3 bb w1 wq b0 b1 b2 b3 cl w3 w4 K n0 n1 n2 n3 hK D;have hg:=D.A.hg;have cc:=Z9 D.A.chk;replace cc:1≤x.sq∧x.sq≤2147483647:=cc;have bm:=D.A.few;have hD:=Lib.hid D
 have bw:Hid (∀i,i<256→Ai g.pns x.op.past i=(Bs g.pns x.op.past i||Ci g.pns x.op.past i)):=fun i hi=>by
  unfold Ai;simp [hi]
 have bu:Hid (g.pns.length=g.nodes.length):=by show _=_;unfold Gph.pns;rw [An1]
 obtain ⟨CX,bh⟩:=Ab x.cells;have e0:Hid (CX[0]? =some (.int .i64 x.by_)):=by show _=_;rw [← bh.out];rfl
 have e1:Hid (CX[1]? =some (.int .i64 x.sq)):=by show _=_;rw [← bh.out];rfl
 have hx:Hid (∀wz,Fr Non w4 wz→wz.cell? ⟨w.heap.size,0,none⟩=some (.int .i64 x.by_)∧wz.cell? ⟨w.heap.size,1,none⟩=some (.int .i64 x.sq)):=fun wz hf=>by
  have h:=D.bx.fr hf zq;have h0:=h.cell 0;have h1:=h.cell 1;rw [bh.out] at h0 h1;rw [e0.out] at h0;rw [e1.out] at h1;exact ⟨h0,h1⟩
 have ax:Hid (∀wz,Fr Non w4 wz→wz.cell? ⟨g.gb,2,none⟩=some (.slice g.nA g.nodes.length g.nC)):=fun wz hf=>((hg.fr D.fr).fr hf).blk.cell 2;rw [bh.out];obtain ⟨nn,ar⟩:=Ab g.nodes.length;rw [ar.out] at ax bm bu;have c2:=ax.out w4 (Fr.refl _ _);clear D;go_wp2_with (fail);clear c2
 go_loopw [19,20,158] (fun tl ta v wr=>∃(i:Nat) (la:Int) (ah:Bool),tl=.int .i64 la∧ta=.bool ah∧v=.int .i64 (i:Int)∧i≤nn∧Hid (la=Ao g.pns (Ai g.pns x.op.past) x.by_ i)∧Hid (ah=Cv g.pns (Ai g.pns x.op.past) x.by_ x.sq i)∧Fr Non w4 wr) (fun _ _ v _=>nn-(intOf v).toNat)
 case atStart=>exact ⟨0,0,false,rfl,rfl,rfl,by omega,rfl,rfl,Fr.refl _ _⟩
 case round=>
  obtain ⟨i,la,ah,rfl,rfl,rfl,hi,ai,ak,hf⟩:=hrel
  by_cases hin:i<nn
  ·
   as_aux_lemma=>
   have i1:(0:Int)≤i:=by omega
   have i2:(i:Int)<nn:=by omega
   have i3:(i:Int).toNat=i:=by omega
   have i4:IntKind.i64.wrap (i:Int)=i:=IntWalk.i64_in _ (by omega);obtain ⟨nd,bs⟩:∃z,g.nodes[i]? =some z:=⟨_,Am8 (by rw [ar.out];exact hin)⟩;have bt:g.pns[i]? =some nd.pn:=by unfold Gph.pns;rw [An4,bs];rfl
   obtain ⟨bn,ab,ch,dm,ae⟩:=hg.cell bs;have af:=Lib.hid (Z7 (p:=Ai g.pns x.op.past) (d:=x.by_) bt);have ad:=Lib.hid (Z8 (p:=Ai g.pns x.op.past) (d:=x.by_) (s:=x.sq) bt)
   have bq:Hid (∀wz,Fr Non w4 wz→wz.cell? ⟨bn,ab+i*35,none⟩=some (.int .i64 nd.x.by_)∧wz.cell? ⟨bn,ab+i*35+1,none⟩=some (.int .i64 nd.x.sq)):=fun wz hf=>by
    have f1:=hD.out.fr.trans hf zr;exact ⟨f1.cell (ae 0 (by omega) _ rfl) zq,f1.cell (ae 1 (by omega) _ rfl) zq⟩
   have kh:=Lib.hid (fun wz (hz:Fr Non w4 wz)=>Ol gs 30 [n0,n1,n2,n3] _ i wz hD.out.set (fun j hj=>by
    rw [(hD.out.bn.fr hz zq).cell]
    match j,hj with
    |0,_=>rfl
    |1,_=>rfl
    |2,_=>rfl
    |3,_=>rfl) (by omega))
   obtain ⟨mi,bk⟩:=Ab (Bs g.pns x.op.past i||Ci g.pns x.op.past i);have cf:Hid (Ai g.pns x.op.past i=mi):=(bw.out i (by omega)).trans bk.out;rw [bk.out] at kh;have c2:=ax.out wr hf;rw [ch] at c2;obtain ⟨aq,au⟩:=bq.out wr hf;obtain ⟨x0,x1⟩:=hx.out wr hf;have b9:IntKind.i64.wrap (x.sq-1)=x.sq-1:=IntWalk.i64_in _ (by omega);rw [cf.out] at af ad;replace af:Hid (Ao g.pns (Ai g.pns x.op.past) x.by_ (i+1)=if (nd.x.by_==x.by_&&mi)=true then max (Ao g.pns (Ai g.pns x.op.past) x.by_ i) nd.x.sq else Ao g.pns (Ai g.pns x.op.past) x.by_ i):=af;replace ad:Hid (Cv g.pns (Ai g.pns x.op.past) x.by_ x.sq (i+1)=(Cv g.pns (Ai g.pns x.op.past) x.by_ x.sq i||(nd.x.by_==x.by_&&mi&&nd.x.sq==x.sq-1))):=ad;clear bt bs ae ch bw bk cf ax hg hD
   rcases zb (nd.x.by_==x.by_) with hq|hq
   ·
    rw [hq] at af ad;go_upto_region 46 with (fail)
    clear c2;refine wp_region_held_drew (S:=(fun w'=>w'.cell? ⟨bn,ab+i*35,none⟩=some (.int .i64 nd.x.by_)∧w'.cell? ⟨w.heap.size,0,none⟩=some (.int .i64 x.by_))) (by kernel_rfl) ⟨aq,x0⟩ (fun hHeld=> ?_);clear hHeld;have hS:(fun w'=>w'.cell? ⟨bn,ab+i*35,none⟩=some (.int .i64 nd.x.by_)∧w'.cell? ⟨w.heap.size,0,none⟩=some (.int .i64 x.by_)) wr.drew:=⟨aq,x0⟩;replace hf:=hf.drew;refine tkH 0 hS (h:=tkH 1 hS (h:=tkH 2 hS (h:=tkH 3 hS (h:=tkH 4 hS (h:=tkH 5 hS (h:=tkH 6 hS (h:=tkH 7 hS (h:=tkH 8 hS (h:=tkH 9 hS (h:=tkH 10 hS (h:=?_)))))))))));simp only [List.set];refine oG 11 (fun K hK=> ?_);go_simp;go_wp2_with (go_at_call 42;(with_reducible refine (kh.out _ hf).mono ?_);rintro _ _ ⟨rfl,rfl⟩);refine hK.out _ _ hS (fun hZ=> ?_);clear hZ hK K kh;try simp only [Aj,List.set]
    refine tkH 12 hS (h:=?_);simp only [List.set];refine oD ?_;go_simp;obtain ⟨aq,au⟩:=bq.out wr.drew hf;obtain ⟨x0,x1⟩:=hx.out wr.drew hf;clear hS bq aq x0
    cases mi
    ·
     have ap:Hid (la=Ao g.pns (Ai g.pns x.op.past) x.by_ (i+1)):=by show _=_;rw [af.out,← ai.out];rfl
     have ao:Hid (ah=Cv g.pns (Ai g.pns x.op.past) x.by_ x.sq (i+1)):=by show _=_;rw [ad.out,← ak.out];simp
     clear af ad ai ak au x1;go_wp2_with (fail);go_roundw
     case rel=>exact ⟨i+1,la,ah,rfl,rfl,by go_num,by omega,ap,ao,hf⟩
     case measure=>simp [intOf];omega
    ·
     have ap:Hid (max la nd.x.sq=Ao g.pns (Ai g.pns x.op.past) x.by_ (i+1)):=by show _=_;rw [af.out,← ai.out];rfl
     have ao:Hid ((ah||nd.x.sq==x.sq-1)=Cv g.pns (Ai g.pns x.op.past) x.by_ x.sq (i+1)):=by show _=_;rw [ad.out,← ak.out];simp
     clear af ad ai ak;go_upto_region 48 with (fail)
     generalize wr.drew=w5 at*
     cases ah
     case false=>
      refine wp_region_held_drew (S:=(fun w'=>w'.cell? ⟨bn,ab+i*35+1,none⟩=some (.int .i64 nd.x.sq)∧w'.cell? ⟨w.heap.size,1,none⟩=some (.int .i64 x.sq))) (by kernel_rfl) ⟨au,x1⟩ (fun hHeld=> ?_);clear hHeld;have hS:(fun w'=>w'.cell? ⟨bn,ab+i*35+1,none⟩=some (.int .i64 nd.x.sq)∧w'.cell? ⟨w.heap.size,1,none⟩=some (.int .i64 x.sq)) w5.drew:=⟨au,x1⟩;replace hf:=hf.drew;refine tkH 0 hS (h:=tkH 1 hS (h:=tkH 2 hS (h:=tkH 3 hS (h:=tkH 4 hS (h:=tkH 5 hS (h:=tkH 6 hS (h:=tkH 7 hS (h:=tkH 8 hS (h:=tkH 9 hS (h:=tkH 10 hS (h:=tkH 11 hS (h:=?_))))))))))));simp only [List.set];refine tkH 12 hS (h:=?_);simp only [List.set];refine oD ?_;go_simp;go_wp2_with (fail);go_roundw
      case rel=>exact ⟨i+1,max la nd.x.sq,_,rfl,rfl,by go_num,by omega,ap,ao,hf⟩
      case measure=>simp [intOf];omega
     case true=>
      refine wp_region_held_drew (S:=(fun w'=>w'.cell? ⟨bn,ab+i*35+1,none⟩=some (.int .i64 nd.x.sq)∧w'.cell? ⟨w.heap.size,1,none⟩=some (.int .i64 x.sq))) (by kernel_rfl) ⟨au,x1⟩ (fun hHeld=> ?_);clear hHeld;have hS:(fun w'=>w'.cell? ⟨bn,ab+i*35+1,none⟩=some (.int .i64 nd.x.sq)∧w'.cell? ⟨w.heap.size,1,none⟩=some (.int .i64 x.sq)) w5.drew:=⟨au,x1⟩;replace hf:=hf.drew;refine tkH 0 hS (h:=tkH 1 hS (h:=skH 2 hS (h:=skH 3 hS (h:=skH 4 hS (h:=skH 5 hS (h:=skH 6 hS (h:=skH 7 hS (h:=skH 8 hS (h:=skH 9 hS (h:=skH 10 hS (h:=tkH 11 hS (h:=?_))))))))))));simp only [List.set];refine tkH 12 hS (h:=?_);simp only [List.set];refine oD ?_;go_simp;go_wp2_with (fail);go_roundw
      case rel=>exact ⟨i+1,max la nd.x.sq,_,rfl,rfl,by go_num,by omega,ap,ao,hf⟩
      case measure=>simp [intOf];omega
   ·
    rw [hq] at af ad;have ap:Hid (la=Ao g.pns (Ai g.pns x.op.past) x.by_ (i+1)):=by show _=_;rw [af.out,← ai.out];rfl
    have ao:Hid (ah=Cv g.pns (Ai g.pns x.op.past) x.by_ x.sq (i+1)):=by show _=_;rw [ad.out,← ak.out];simp
    clear af ad ai ak;go_upto_region 46 with (fail)
    clear c2;refine wp_region_held_drew (S:=(fun w'=>w'.cell? ⟨bn,ab+i*35,none⟩=some (.int .i64 nd.x.by_)∧w'.cell? ⟨w.heap.size,0,none⟩=some (.int .i64 x.by_))) (by kernel_rfl) ⟨aq,x0⟩ (fun hHeld=> ?_);clear hHeld;have hS:(fun w'=>w'.cell? ⟨bn,ab+i*35,none⟩=some (.int .i64 nd.x.by_)∧w'.cell? ⟨w.heap.size,0,none⟩=some (.int .i64 x.by_)) wr.drew:=⟨aq,x0⟩;replace hf:=hf.drew;refine tkH 0 hS (h:=tkH 1 hS (h:=tkH 2 hS (h:=tkH 3 hS (h:=tkH 4 hS (h:=tkH 5 hS (h:=tkH 6 hS (h:=tkH 7 hS (h:=tkH 8 hS (h:=skH 9 hS (h:=skH 10 hS (h:=skH 11 hS (h:=?_))))))))))));simp only [List.set];refine tkH 12 hS (h:=?_);simp only [List.set];refine oD ?_;go_simp;clear hS;go_wp2_with (fail);go_roundw
    case rel=>exact ⟨i+1,la,ah,rfl,rfl,by go_num,by omega,ap,ao,hf⟩
    case measure=>simp [intOf];omega
  ·
   obtain rfl:nn=i:=by omega
   have ac:Hid (B4 g.pns (Ai g.pns x.op.past) x.op=(decide (x.sq≤la)||(decide (1<x.sq)&& !ah))):=by
    show _=_;unfold B4;rw [bu.out];rw [show x.op.by_=x.by_ from rfl,show x.op.sq=x.sq from rfl,← ai.out,← ak.out]
   obtain ⟨x0,x1⟩:=hx.out wr hf;obtain ⟨bad,av⟩:=Ab (decide (x.sq≤la)||(decide (1<x.sq)&& !ah));clear ai ak hi hin hx ax bu bw x0;go_upto_region 50 with (fail)
   go_cut [212] from 200 to 212 (fun s wc=>wr=wc∧s=.bool bad)
   case first=>
    clear hD ac hg
    as_aux_lemma=>
    rcases zb (decide (x.sq≤la)) with t1|t1
    ·
     have hv:Hid (true=bad):=by show _=_;rw [← av.out,t1];rfl
     go_wp2_with (fail);go_meet;exact ⟨rfl,congrArg Value.bool hv.out⟩
    ·
     rcases zb (decide (1<x.sq)) with t2|t2
     ·
      have hv:Hid ((!ah)=bad):=by show _=_;rw [← av.out,t1,t2];rfl
      go_wp2_with (fail);go_meet;exact ⟨rfl,congrArg Value.bool hv.out⟩
     ·
      have hv:Hid (false=bad):=by show _=_;rw [← av.out,t1,t2];rfl
      go_wp2_with (fail);go_meet;exact ⟨rfl,congrArg Value.bool hv.out⟩
   case rest=>
   obtain ⟨rfl,rfl⟩:=hcut;clear x1;rw [av.out] at ac
   cases bad
   case true=>
    have br:=Lib.hid (AddPost.bad (base:=base) (w':=wr) (by rw [hD.out.err,if_pos ac.out]) (by decide) (hD.out.fr.trans hf zr));clear hD ac av hg hf
    as_aux_lemma=>
    go_wp2_with (fail)
    go_ret
    exact br.out
   case false=>
    have aw:Ar g.cards g.pns x.op=0:=by rw [hD.out.err,ac.out];rfl
    have D:=hD.out;obtain ⟨aa,ag⟩:=Ab x.op.name;have bi:aa.ok:=by rw [← ag.out];exact Lu D.A.hok
    have e3:Fr Non w wr:=D.fr.trans hf zr;have bf:=hg.fr e3;have a4:=D.bn.fr hf zq;rw [ag.out] at a4;have b4:wr.cell? ⟨gs,27,none⟩=some (.int .i64 aa.b):=a4.cell 27;have cd:wr.cell? ⟨gs,28,none⟩=some (.int .i64 aa.s):=a4.cell 28;have ca:wr.cell? ⟨gs,29,none⟩=some (.int .u64 (aa.u:Int)):=a4.cell 29;have c1:wr.cell? ⟨g.gb,1,none⟩=some (.map (some g.mb)):=bf.blk.cell 1;have c2:wr.cell? ⟨g.gb,2,none⟩=some (.slice g.nA nn g.nC):=by rw [← ar.out];exact bf.blk.cell 2
    obtain ⟨w5,a9,ce,cj⟩:=MapAt.store (bf.map.fr ((Fr.refl Non wr).drew) zq) aa bi nn (by omega) (by have:=hg.mfew;have:=hg.few;omega);have f5:Fr (One g.mb) wr.drew w5:=(Fr.refl (One g.mb) wr.drew).grown cj (fun k hk _=>by injection hk with hk;exact hk.symm);have aj:(Instr.mapUpdate 91 (.map (some g.mb)) (.agg aa.V) (.int .i64 (nn:Int))).run Tryz.prog wr.drew=.ok () w5:=a9;clear a9 cj ac av;go_upto_region 52 with (fail)
    refine C6 (S:=(fun w'=>w'.cell? ⟨gs,27,none⟩=some (.int .i64 aa.b)∧w'.cell? ⟨gs,28,none⟩=some (.int .i64 aa.s)∧w'.cell? ⟨gs,29,none⟩=some (.int .u64 (aa.u:Int))∧w'.cell? ⟨g.gb,1,none⟩=some (.map (some g.mb))∧w'.cell? ⟨g.gb,2,none⟩=some (.slice g.nA nn g.nC))) 11 (by kernel_rfl) ?_;have hS:(fun w'=>w'.cell? ⟨gs,27,none⟩=some (.int .i64 aa.b)∧w'.cell? ⟨gs,28,none⟩=some (.int .i64 aa.s)∧w'.cell? ⟨gs,29,none⟩=some (.int .u64 (aa.u:Int))∧w'.cell? ⟨g.gb,1,none⟩=some (.map (some g.mb))∧w'.cell? ⟨g.gb,2,none⟩=some (.slice g.nA nn g.nC)) wr.drew:=⟨b4,cd,ca,c1,c2⟩;obtain ⟨wd,b8⟩:=Ab wr.drew;have fd:Fr Non w4 wd:=by rw [← b8.out];exact hf.drew
    rw [b8.out] at hS f5 aj ⊢;refine tkG 0 hS (h:=tkG 1 hS (h:=tkG 2 hS (h:=tkG 3 hS (h:=tkG 4 hS (h:=tkG 5 hS (h:=tkG 6 hS (h:=tkG 7 hS (h:=tkG 8 hS (h:=tkG 9 hS (h:=tkG 10 hS (h:=?_)))))))))));simp only [List.set];refine Cy (by kernel_rfl) ?_;refine oG 11 (fun K hK=> ?_);go_simp;refine hK.out _ _ trivial (fun hZ=> ?_);clear hZ hK K;try simp only [Ae,List.set]
    refine oD ?_;go_simp;clear hS aj b4 cd ca c1 c2 bf a4;have ci:Fr Non w wd:=D.fr.trans fd zr;have bj:=hg.fr ci;have fp:g.mb<w.heap.size:=hg.map.lt;have es:=D.lo1
    have a8:g.gb≠g.mb:=fun e=>by
     have h1:=hg.blk;unfold Blk at h1;rw [e] at h1;exact hg.map.ismap _ _ _ h1
    have bv:¬Ac g.nA=some g.mb:=fun e=>by
     obtain ⟨cs,fr,hb⟩:=hg.own.block e;exact hg.map.ismap _ _ _ hb
    have ay:¬Ac g.nA=some g.gb:=hg.own.ne hg.blk (by decide);have bo:¬Ac g.nA=some gs:=fun e=>by have:=(hg.own.row _ e).2;omega
    have b5:=bj.blk.fr f5 (fun e=>a8 e)
    have ds:Blk w5 gs 98 (⟨y,aa,n0,n1,n2,n3,lv⟩:Ah).cells.toArray:=by
     have h1:=(D.bn.fr fd zq).fr f5 (fun e=>by have e':gs=g.mb:=e;omega);rw [ag.out] at h1;exact h1
    have bp:Own w5 base 98 35 g.nA nn g.nC (g.nodes.flatMap Ah.cells):=by
     rw [← ar.out];exact bj.own.fr f5 (fun k hk e=>by have e':k=g.mb:=e;subst e';exact bv hk)
    have c5:w5.cell? ⟨g.gb,2,none⟩=some (.slice g.nA nn g.nC):=by rw [← ar.out];exact b5.cell 2
    have a6:(Tryz.prog.info? 98).map (·.size)=some (⟨y,aa,n0,n1,n2,n3,lv⟩:Ah).cells.toArray.size:=by
     show _=some 35
     kernel_rfl
    have fi:=Bi (P:=Tryz.prog) gs 98 Tryz.underlying98 rfl (cs:=(⟨y,aa,n0,n1,n2,n3,lv⟩:Ah).cells.toArray) a6;have dh:=Aa1 ⟨y,aa,n0,n1,n2,n3,lv⟩;have bc:=I6 ⟨y,aa,n0,n1,n2,n3,lv⟩;have bl:(⟨y,aa,n0,n1,n2,n3,lv⟩:Ah).cells.length=35:=rfl;have al:=Lib.hid (fun (A':Option Addr) (c':Nat) (w6 w7:World)=>Z6 (w4:=w4) (wd:=wd) (w5:=w5) (w6:=w6) (w7:=w7) (A':=A') (c':=c') hg D aw fd);have bz:base≤w.heap.size:=Nat.le_trans hg.gbase (An5 hg.blk.lt);have ig:=f5.size;have iv:=ci.size;rw [ag.out,ar.out] at al;clear bj D aw hD hf;go_upto_region 53 with (fail)
    refine C6 (S:=(fun w'=>w'.cell? ⟨g.gb,2,none⟩=some (.slice g.nA nn g.nC)∧Blk w' gs 98 (⟨y,aa,n0,n1,n2,n3,lv⟩:Ah).cells.toArray)) 10 (by kernel_rfl) ?_;have hS:(fun w'=>w'.cell? ⟨g.gb,2,none⟩=some (.slice g.nA nn g.nC)∧Blk w' gs 98 (⟨y,aa,n0,n1,n2,n3,lv⟩:Ah).cells.toArray) w5.drew:=⟨c5,ds⟩;obtain ⟨we,cg⟩:=Ab w5.drew;have fe:Fr Non w5 we:=by rw [← cg.out];exact (Fr.refl Non w5).drew
    have bd:=bp.fr fe zr;have be:=b5.fr fe zq;have e9:=fe.size;rw [cg.out] at hS ⊢;refine tkG 0 hS (h:=tkG 1 hS (h:=tkG 2 hS (h:=tkG 3 hS (h:=tkG 4 hS (h:=tkG 5 hS (h:=?_))))));simp only [List.set];refine Bn 6 (by kernel_rfl) rfl (fun K hK=> ?_);go_simp;have fa:Fr Non we (we.alloc (.cells (⟨y,aa,n0,n1,n2,n3,lv⟩:Ah).cells.toArray 98)):=(Fr.refl Non we).alloc _;have bg:(fun w'=>w'.cell? ⟨g.gb,2,none⟩=some (.slice g.nA nn g.nC)∧Blk w' gs 98 (⟨y,aa,n0,n1,n2,n3,lv⟩:Ah).cells.toArray) (we.alloc (.cells (⟨y,aa,n0,n1,n2,n3,lv⟩:Ah).cells.toArray 98)):=⟨fa.cell hS.1 zq,hS.2.fr fa zq⟩;have a5:=bd.fr fa zr;have az:=Rd.blk (n:=1) (size:=35) (l:=(⟨y,aa,n0,n1,n2,n3,lv⟩:Ah).cells) (Blk.new we 98 (⟨y,aa,n0,n1,n2,n3,lv⟩:Ah).cells.toArray) (by rw [bl]);have b6:=be.fr fa zq;have f6:=fe.trans fa zr;refine hK.out _ _ bg (fun hZ=> ?_);clear hZ hK K;try simp only [Aj,List.set]
    generalize we.alloc (.cells (⟨y,aa,n0,n1,n2,n3,lv⟩:Ah).cells.toArray 98)=w6 at*;refine Bn 7 (by kernel_rfl) rfl (fun K hK=> ?_);refine Aa2 (base:=base) (.tmp 228) (.tmp 230) 92 (by rfl) (by rfl) (by rfl) Rn a5 az (by intro u hu;exact (Array.all_eq_true'.1 bc) u (by simpa using hu)) (by omega) (by omega) (by have:=f6.size;omega) ?_;intro A' c' w7 ba f7 cb;have a7:(fun w'=>w'.cell? ⟨g.gb,2,none⟩=some (.slice g.nA nn g.nC)∧Blk w' gs 98 (⟨y,aa,n0,n1,n2,n3,lv⟩:Ah).cells.toArray) w7:=⟨f7.cell bg.1 ay,bg.2.fr f7 bo⟩;have b7:=b6.fr f7 ay;refine hK.out _ _ a7 (fun hZ=> ?_);clear hZ hK K;try simp only [Aj,List.set]
    refine Bn 8 (by kernel_rfl) rfl (fun K hK=> ?_);go_simp;refine hK.out _ _ a7 (fun hZ=> ?_);clear hZ hK K;try simp only [Aj,List.set]
    refine tkG 9 a7 (h:=?_);simp only [List.set];have br:=Lib.hid (al.out A' c' w6 w7 ce f5 f6 ba f7 cb);have c7:w7.cell? ⟨g.gb,2,none⟩=some (.slice g.nA nn g.nC):=a7.1;have z7:w7.frozen? ⟨g.gb,2,none⟩=false:=b7.frozen 2;refine Cy (by kernel_rfl) ?_;refine oG 10 (fun K hK=> ?_);go_simp;refine hK.out _ _ trivial (fun hZ=> ?_);clear hZ hK K;try simp only [Ae,List.set]
    refine oD ?_;go_simp;clear hS bg a7 ba f7 cb b7 c7 z7 al ce f5 f6 a5 az b6 be bd fe e9 fi dh bc;go_wp2_with (fail)
    go_ret
    exact br.out
theorem K5 (base:Nat) (g:Gph) (x:OpL) (w:World) (hg:GAt w base g) (hat:x.at w w.heap.size) (hok:x.op.ok) (hkn:KindsAt w):
  Calls Tryz.prog 34 #[.pointer (some ⟨g.gb,0,none⟩),.agg x.cells] w (AddPost base g x.op w):=
 addA.2 ⟨addB.2 ⟨addC.2 ⟨addD.2 ⟨Aa3⟩⟩⟩⟩ base g x w hg hat hok hkn
end Oq
end
section
open Go.RowKit
namespace Oq
def sgn (o:Op):Op:={o with r:=Sg.r (sec Bj o.by_.toNat) o.bare,s:=Sg.s (sec Bj o.by_.toNat) o.bare}
theorem Aa4 (o:Op) (R S:Nat):({o with r:=R,s:=S}:Op).chk=o.chk:=rfl
theorem Ro (o:Op) (R S:Nat):({o with r:=R,s:=S}:Op).bare=o.bare:=rfl
theorem Aa5 (o:Op) (R S:Nat):({o with r:=R,s:=S}:Op).id=o.id:=by unfold Op.id;rw [Ro]
theorem Rp (o:Op) (R S:Nat):({o with r:=R,s:=S}:Op).name=o.name:=by
 unfold Op.name;rw [Aa5]
theorem Aa6 (l:List Pn) (p:Nat→Bool) (o:Op) (R S:Nat):B4 l p ({o with r:=R,s:=S}:Op)=B4 l p o:=rfl
theorem Gp (o:Op):∃R S,sgn o={o with r:=R,s:=S}∧Sg.check (Sg.pub (sec Bj o.by_.toNat)) o.bare R S=true:=
 ⟨_,_,rfl,Sg.takes _ _ (An3 (He _ _) (by decide))⟩
theorem Aa7 (o:Op):(sgn o).name=o.name:=by
 obtain ⟨R,S,h,_⟩:=Gp o;rw [h,Rp]
theorem Aa8 (o:Op):(sgn o).by_=o.by_:=by
 obtain ⟨R,S,h,_⟩:=Gp o;rw [h]
theorem Aa9 (o:Op):(sgn o).sq=o.sq:=by
 obtain ⟨R,S,h,_⟩:=Gp o;rw [h]
theorem Ab0 (o:Op):(sgn o).at_=o.at_:=by
 obtain ⟨R,S,h,_⟩:=Gp o;rw [h]
theorem Ab1 (o:Op):(sgn o).past=o.past:=by
 obtain ⟨R,S,h,_⟩:=Gp o;rw [h]
theorem Rq {cards:List Cd} {l:List Pn} {o:Op} {c:Cd} (h1:o.chk=0) (h2:plc l o.name=none) (h3:l.length<200) (h4:Cw cards o.by_=some c) (h5:c.s=Sg.pub (sec Bj o.by_.toNat)) (h6:o.kind≠1∨l=[])
  (h7:o.past.any (fun id=>(plc l id).isNone)=false) (h8:clash l o.past=false) (h9:late l o.past≤o.at_) (h10:B4 l (Ai l o.past) o=false):Ar cards l (sgn o)=0:=by
 obtain ⟨R,S,e,hc⟩:=Gp o;rw [e];unfold Ar;rw [Aa4,Rp,h1,h2,if_neg (by simp),if_neg (by simp),if_neg (by omega)];rw [show ({o with r:=R,s:=S}:Op).by_=o.by_ from rfl,h4];dsimp only;rw [Ro,h5,hc,if_neg (by simp),if_neg (by rcases h6 with h|h<;>simp [h]),h7,if_neg (by simp),h8,if_neg (by simp;omega),Aa6,h10]
 simp
def Ej (b:Int):Op:={base b 1 1 0 [] [] with need:=0}
theorem Ab2 {b:Int} (hb:1≤b∧b≤12):(Ej b).chk=0:=
 U6 (h:=⟨by omega,hb,by omega,by omega,⟨by simp,by simp,List.Pairwise.nil,by simp⟩,⟨by simp,by simp,.inl rfl⟩⟩) (Dt (by omega))
theorem id_lt (o:Op):o.id<FP:=by unfold FP;exact Hs.of_lt _ _
theorem Ab3 {b s:Int} {u:Nat} (hb:1≤b∧b≤12) (hs:1≤s∧s≤2147483647) (hu:u<FP):(Id.mk b s u).named=true:=Oz hb hs hu
theorem Rr {o:Op} (hb:1≤o.by_∧o.by_≤12) (hs:1≤o.sq∧o.sq≤2147483647):o.name.named=true:=by
 unfold Op.name;exact Ab3 hb hs (id_lt o)
end Oq
end
section
open Go.RowKit
attribute [local go_sem ↓] Go.wp_at_zero Go.wp_at_succ
namespace Oq
attribute [local go_sem ↓] Cg Es
theorem Ab4 (x:OpL) (o:Op) (h:x.op=o) (u:Nat) (hu:o.by_.toNat=u) (S:Nat) (hS:sec Bj u=S):({x with r:=Sg.r S x.op.bare,s:=Sg.s S x.op.bare}:OpL).op=sgn o:=by
 rw [Wn,h];unfold sgn;rw [hu,hS]
end Oq
end
section
open Go.RowKit Go.Sort Go.Shelf
namespace Oq
section
variable {α : Type} [Inhabited α] {enc : α → List Value} {sz : Nat} (hlen : ∀ x, (enc x).length = sz) (hsz : 0 < sz)
include hlen hsz
theorem Rs (xs:List α) {j:Nat} (hj:j<xs.length*sz):(xs.flatMap enc)[j]? =some ((flatK enc sz xs.toArray)[j]!):=by
 rw [get_flatK _ _ _ _ (by simpa using hj)];have hk:j/sz<xs.length:=Nat.div_lt_of_lt_mul (by rwa [Nat.mul_comm] at hj);have hm:j%sz<sz:=Nat.mod_lt _ hsz;have h1:xs[j/sz]? =some xs[j/sz]:=Am8 hk;have h2:=Fo (f:=enc) (size:=sz) hlen xs (j/sz) (j%sz) _ h1 hm;rw [Nat.mul_comm,Nat.div_add_mod] at h2;rw [h2];have h3:xs.toArray[j/sz]! =xs[j/sz]:=by simp [hk]
 rw [h3];have h4:j%sz<(enc xs[j/sz]).length:=by rw [hlen];exact hm
 rw [Am8 h4];simp [h4]
theorem Rt {w:World} {base c:Nat} {t:TypeId} {g:Nat} {xs:List α} (h:Own w base t sz (some ⟨g,0,none⟩) xs.length c (xs.flatMap enc)):HoldsK enc sz w g 0 xs.toArray:=by
 intro j hj;have hj':j<xs.length*sz:=by simpa using hj
 obtain ⟨cur,hb,hl,hs⟩:=Rk h (by
  rcases Nat.eq_zero_or_pos xs.length with h0|h0
  · rw [h0] at hj';simp at hj'
  · exact h0)
 have hf:=Rs hlen hsz xs hj';rw [An2];refine ⟨?_,hb.frozen j⟩;rw [hb.cell j,id,← hf,← hl,Ao1 hj'];simp
theorem Ru {w:World} {base c:Nat} {t:TypeId} {g:Nat} {xs ys:List α} (n:Nat) (os:Array Obj) (h:Own w base t sz (some ⟨g,0,none⟩) xs.length c (xs.flatMap enc)) (hx:0<xs.length) (hl:ys.length=xs.length):
  Own (sortWorldK enc sz w g 0 n ys.toArray os) base t sz (some ⟨g,0,none⟩) ys.length c (ys.flatMap enc):=by
 have hyl:(ys.flatMap enc).length=ys.length*sz:=Fp (f:=enc) hlen ys
 rcases h.2 with ⟨_,h0⟩|⟨g',cap,cur,hv,hb,hg,h1,h2,h3,h4⟩
 · omega
 ·
  injection hv with hA hn' hc
  injection hA with hA
  injection hA with hA
  subst hA;subst hc
  have hs:xs.length*sz≤cur.size:=by
   have h5:=congrArg An6 h4;rw [An9,Ao0,h.1] at h5;rw [← h5];exact Nat.min_le_right _ _
  have hnew:=Rl (n:=n) (os:=os) (d:=flatK enc sz ys.toArray) (show Blk w g t cur from hg);refine ⟨hyl,.inr ⟨g,c,putCells id 0 (flatK enc sz ys.toArray) cur,rfl,hb,hnew,by omega,h2,?_,?_⟩⟩
  · simpa [putCells] using h3
  ·
   rw [← hyl];exact Rm (by rw [hyl];simp) (fun j hj=>Rs hlen hsz ys (by omega)) (by rw [hyl,hl];exact hs)
end
end Oq
end
section
open Go.RowKit
attribute [local go_sem ↓] Go.wp_at_zero Go.wp_at_succ
namespace Oq
theorem Ab5 (l:List Cd):∀v∈l.flatMap Cd.cells,v.oneCell'=true:=Iy _ (fun a v hv=>by simp [Cd.cells] at hv;rcases hv with rfl|rfl|rfl|rfl|rfl<;>rfl) l
end Oq
end
end Go.Proofs.YtkanjaikgphjfaaGreatDoor
namespace Go.Proofs
open Go.Shelf Go.RowKit Go.Lib Go.Sort
def Tryz.sortCards_ren:Go.Shelf.Ren:=⟨fun|6=>59|15=>67|14=>104|28=>119|29=>120|20=>141|21=>142|22=>143|23=>144|24=>145|25=>146|26=>147|27=>148|46=>184|47=>169|48=>170|49=>185|50=>186|57=>207|n=>n,fun|22=>23|24=>71|25=>116|3=>3|39=>123|0=>0|53=>178|55=>39|4=>4|46=>172|45=>171|50=>86|5=>5|9=>9|66=>219|70=>222|76=>239|77=>240|n=>n,fun|n=>n⟩
theorem Tryz.sortCards:Go.Proofs.SlLaysF0.n6 Tryz.prog Tryz.sortCards_ren:={
  mixed:=by kernel_rfl
  f6:=⟨Tryz.f59.name,by decide,Tryz.func59.trans (congrArg some (by kernel_rfl))⟩
  f14:=⟨Tryz.f104.name,by decide,Tryz.func104.trans (congrArg some (by kernel_rfl))⟩
  f15:=Tryz.func67.trans (congrArg some (by kernel_rfl))
  f20:=⟨Tryz.f141.name,by decide,Tryz.func141.trans (congrArg some (by kernel_rfl))⟩
  f21:=⟨Tryz.f142.name,by decide,Tryz.func142.trans (congrArg some (by kernel_rfl))⟩
  f22:=⟨Tryz.f143.name,by decide,Tryz.func143.trans (congrArg some (by kernel_rfl))⟩
  f23:=⟨Tryz.f144.name,by decide,Tryz.func144.trans (congrArg some (by kernel_rfl))⟩
  f24:=⟨Tryz.f145.name,by decide,Tryz.func145.trans (congrArg some (by kernel_rfl))⟩
  f25:=⟨Tryz.f146.name,by decide,Tryz.func146.trans (congrArg some (by kernel_rfl))⟩
  f26:=⟨Tryz.f147.name,by decide,Tryz.func147.trans (congrArg some (by kernel_rfl))⟩
  f27:=⟨Tryz.f148.name,by decide,Tryz.func148.trans (congrArg some (by kernel_rfl))⟩
  f28:=Tryz.func119.trans (congrArg some (by kernel_rfl))
  f29:=Tryz.func120.trans (congrArg some (by kernel_rfl))
  f46:=⟨Tryz.f184.name,by decide,Tryz.func184.trans (congrArg some (by kernel_rfl))⟩
  f47:=Tryz.func169.trans (congrArg some (by kernel_rfl))
  f48:=Tryz.func170.trans (congrArg some (by kernel_rfl))
  f49:=⟨Tryz.f185.name,by decide,Tryz.func185.trans (congrArg some (by kernel_rfl))⟩
  f50:=⟨Tryz.f186.name,by decide,Tryz.func186.trans (congrArg some (by kernel_rfl))⟩
  f57:=⟨Tryz.f207.name,by decide,Tryz.func207.trans (congrArg some (by kernel_rfl))⟩
  t0:=Tryz.underlying0
  a0:=Tryz.isAgg0
  z0:=Tryz.sizeOf0
  v0:=Tryz.zeroValue0
  t3:=Tryz.underlying3
  a3:=Tryz.isAgg3
  z3:=Tryz.sizeOf3
  v3:=Tryz.zeroValue3
  t4:=Tryz.underlying4
  a4:=Tryz.isAgg4
  z4:=Tryz.sizeOf4
  v4:=Tryz.zeroValue4
  t5:=Tryz.underlying5
  a5:=Tryz.isAgg5
  z5:=Tryz.sizeOf5
  v5:=Tryz.zeroValue5
  t9:=Tryz.underlying9
  a9:=Tryz.isAgg9
  z9:=Tryz.sizeOf9
  v9:=Tryz.zeroValue9
  t22:=Tryz.underlying23
  a22:=Tryz.isAgg23
  z22:=Tryz.sizeOf23
  v22:=Tryz.zeroValue23
  t25:=Tryz.underlying116
  a25:=Tryz.isAgg116
  z25:=Tryz.sizeOf116
  v25:=Tryz.zeroValue116
  t39:=Tryz.underlying123
  a39:=Tryz.isAgg123
  z39:=Tryz.sizeOf123
  v39:=Tryz.zeroValue123
  t45:=Tryz.underlying171
  a45:=Tryz.isAgg171
  z45:=Tryz.sizeOf171
  v45:=Tryz.zeroValue171
  t46:=Tryz.underlying172
  a46:=Tryz.isAgg172
  z46:=Tryz.sizeOf172
  v46:=Tryz.zeroValue172
  t50:=Tryz.underlying86
  a50:=Tryz.isAgg86
  z50:=Tryz.sizeOf86
  v50:=Tryz.zeroValue86
  t53:=Tryz.underlying178
  a53:=Tryz.isAgg178
  z53:=Tryz.sizeOf178
  v53:=Tryz.zeroValue178
  t55:=Tryz.underlying39
  a55:=Tryz.isAgg39
  z55:=Tryz.sizeOf39
  v55:=Tryz.zeroValue39
  t66:=Tryz.underlying219
  a66:=Tryz.isAgg219
  z66:=Tryz.sizeOf219
  v66:=Tryz.zeroValue219
  t70:=Tryz.underlying222
  a70:=Tryz.isAgg222
  z70:=Tryz.sizeOf222
  v70:=Tryz.zeroValue222
  t76:=Tryz.underlying239
  a76:=Tryz.isAgg239
  z76:=Tryz.sizeOf239
  v76:=Tryz.zeroValue239
  t77:=Tryz.underlying240
  a77:=Tryz.isAgg240
  z77:=Tryz.sizeOf240
  v77:=Tryz.zeroValue240}
end Go.Proofs
namespace Go.Proofs.YtkanjaikgphjfaaGreatDoor
section
open Go.RowKit Go.Sort Go.Shelf
attribute [local go_sem ↓] Go.wp_at_zero Go.wp_at_succ
namespace Oq
structure CdR where
 c:Cd
 lo:0≤c.d
 hi:c.d≤1000
instance:Inhabited CdR:=⟨⟨⟨0,0,0,0,0⟩,Int.le_refl _,by decide⟩⟩
def CdR.cells (x:CdR):List Value:=x.c.cells
def Hj (x y:CdR):Int:=x.c.d-y.c.d
theorem Jg (x y:CdR):ltOf Hj x y=decide (x.c.d<y.c.d):=by
 unfold ltOf Hj;rw [Bool.eq_iff_iff,decide_eq_true_iff,decide_eq_true_iff];omega
theorem Ab6:SWO (ltOf Hj) where
 irrefl x:=by rw [Jg];simp
 trans x y z h1 h2:=by
  rw [Jg,decide_eq_true_iff] at*;omega
 ntrans x y z h1 h2:=by
  rw [Jg,decide_eq_false_iff_not] at*;omega
theorem Ab7 (x y:Cd) (w:World) (hx0:0≤x.d) (hx1:x.d≤1000) (hy0:0≤y.d) (hy1:y.d≤1000):
  Calls Tryz.prog 60 #[.agg #[.int .i64 x.d,.int .i64 x.m,.int .u64 (x.l:Int),.int .u64 (x.k:Int),.int .u64 (x.s:Int)],.agg #[.int .i64 y.d,.int .i64 y.m,.int .u64 (y.l:Int),.int .u64 (y.k:Int),.int .u64 (y.s:Int)]] w fun e w'=>e=.returned (.int .i64 (x.d-y.d))∧GrowOf w w':=by
 have hf:=((GrowOf.refl w).alloc (.cells #[.int .i64 x.d,.int .i64 x.m,.int .u64 (x.l:Int),.int .u64 (x.k:Int),.int .u64 (x.s:Int)] 71)).alloc (.cells #[.int .i64 y.d,.int .i64 y.m,.int .u64 (y.l:Int),.int .u64 (y.k:Int),.int .u64 (y.s:Int)] 71);go_enter Tryz.func60,Tryz.ntmps60;go_wp2
 go_ret
 exact ⟨rfl,hf⟩
theorem Ab8 (blk off size:Nat) (w:World):CmpLays Tryz.prog 60 #[] CdR.cells 5 Hj blk off size w:=
 fun _ _ _ _ x y=>Ab7 x.c y.c _ x.lo x.hi y.lo y.hi
theorem Ab9 (base:Nat) (A:Option Addr) (c:Nat) (xs:List CdR) (w:World) (hown:Own w base 71 5 A xs.length c (xs.flatMap CdR.cells)) (hlen:xs.length≤1000000):
  Calls Tryz.prog 59 #[.slice A xs.length c,.func (.func 60) #[] #[]] w fun e w'=>e=.returned (.tuple #[])∧
   ∃ys:List CdR,ys.Perm xs∧ys.Pairwise (fun x y=>x.c.d≤y.c.d)∧Own w' base 71 5 A ys.length c (ys.flatMap CdR.cells)∧Fr (fun k=>Ac A=some k) w w':=by
 by_cases h0:xs.length=0
 ·
  have hx:xs=[]:=Ao7 h0;subst hx;have hcon:=AnyF.slices_SortFunc_none Tryz.sortCards A c (.func (.func 60) #[] #[]) w;refine Calls.mono hcon ?_;rintro e w' ⟨rfl,rfl⟩;exact ⟨rfl,[],List.Perm.refl _,List.Pairwise.nil,hown,Fr.refl _ _⟩
 ·
  obtain ⟨g,rfl⟩:∃g,A=some ⟨g,0,none⟩:=by
   rcases hown.2 with ⟨_,hn⟩|⟨g,cap,cur,hv,_⟩
   · exact absurd hn h0
   ·
    injection hv with hA _ _
    exact ⟨g,hA⟩
  have hrow:=hown.row g rfl;have eg:∀args w,(callFunc 60 args).run Tryz.prog w=.ok (.enter 60 args) w:=enters_of Tryz.func60 (by kernel_rfl) rfl;have hcon:=AnyQ.slices_SortFunc Tryz.sortCards 5 Tryz.isAgg71 Tryz.sizeOf71 CdR.cells (fun _=>rfl) (fun x v hv=>by simp [CdR.cells,Cd.cells] at hv;rcases hv with rfl|rfl|rfl|rfl|rfl<;>rfl) Hj Ab6 60 #[] g 0 c xs.toArray w eg (Ab8 g 0 _ w) (Rt (enc:=CdR.cells) (fun _=>rfl) (by decide) hown) hrow.2 (by simp;omega)
  refine Calls.mono hcon ?_;rintro e w' ⟨rfl,d',n,os,hp,hs,rfl⟩;have hds:d'.size=xs.length:=by rw [hp.1];simp
  have hperm:d'.toList.Perm xs:=by
   have h1:=hp.2.2
   have e1:d'.extract 0 xs.toArray.size=d':=by
    rw [show xs.toArray.size=d'.size from hp.1.symm];simp
   have e2:xs.toArray.extract 0 xs.toArray.size=xs.toArray:=by simp
   rw [e1,e2] at h1;simpa using h1
  refine ⟨rfl,d'.toList,hperm,?_,?_,?_⟩
  ·
   rw [List.pairwise_iff_getElem];intro i j hi hj hij;have h1:=hs i j (Ao3 _) hij (by rw [← hp.1];simpa using hj);rw [Jg] at h1;have hi':i<d'.size:=by simpa using hi
   have hj':j<d'.size:=by simpa using hj
   rw [getElem!_pos d' i hi',getElem!_pos d' j hj',decide_eq_false_iff_not] at h1;have h2:d'.toList[i]=d'[i]:=by simp
   have h3:d'.toList[j]=d'[j]:=by simp
   rw [h2,h3];omega
  ·
   have h1:=Ru (enc:=CdR.cells) (sz:=5) (fun _=>rfl) (by decide) (ys:=d'.toList) n os hown (by omega) (by simpa using hds);simpa using h1
  · exact (Lt w g n _ os).mono (fun k hk e=>by have e':k=g:=e;subst e';rfl)
theorem Ac0 {xs ys:List CdR} (hp:ys.Perm xs) (hs:ys.Pairwise (fun x y=>x.c.d≤y.c.d)) (hx:xs.Pairwise (fun x y=>x.c.d<y.c.d)):ys=xs:=by
 induction xs generalizing ys with
 |nil=>exact List.Perm.eq_nil hp
 |cons x r ih=>
  cases ys with
  |nil=>exact absurd hp.length_eq (by simp)
  |cons y q=>
   rw [List.pairwise_cons] at hs hx
   have hxy:y=x:=by
    have hy:y∈x::r:=hp.subset (by simp)
    rcases List.mem_cons.1 hy with h|h
    · exact h
    ·
     have h1:=hx.1 y h;have hx':x∈y::q:=hp.symm.subset (by simp)
     rcases List.mem_cons.1 hx' with h2|h2
     · exact h2.symm
     ·
      have h3:=hs.1 x h2;omega
   subst hxy;rw [ih (List.perm_cons y|>.1 hp) hs.2 hx.2]
end Oq
end
section
open Go.RowKit
attribute [local go_sem ↓] Go.wp_at_zero Go.wp_at_succ
namespace Oq
def Jh (cards:List Cd) (w:World) (e:Ending) (w':World):Prop:=
 ∃g:Gph,e=.returned (.pointer (some ⟨g.gb,0,none⟩))∧GAt w' w.heap.size g∧g.nodes=[]∧g.cards=cards∧Fr Non w w'
theorem Lv (l:List CdR):l.flatMap CdR.cells=(l.map CdR.c).flatMap Cd.cells:=by
 rw [List.flatMap_map];rfl
theorem Ac1 (B c:Nat) (A:Option Addr) (l:List CdR) (w:World) (hr:Rd w B 5 A l.length (l.flatMap CdR.cells)) (hs:l.Pairwise (fun x y=>x.c.d<y.c.d)) (hlen:l.length≤1000000) (hpos:0<w.heap.size) (hcs:∀x∈l,x.c.s<18446744073709551616):
  Calls Tryz.prog 33 #[.slice A l.length c] w (Jh (l.map CdR.c) w):=by
 have kc:=Lib.hid (Xe B l.length c A _ w hr (by rw [Lv];exact Ab5 _) hlen)
 have ac:Hid (∀(A1:Option Addr) (c1:Nat) (w1 w4:World),Fr Non w w1→Own w4 w.heap.size 71 5 A1 l.length c1 (l.flatMap CdR.cells)→
   Fr (fun k=>Ac A1=some k) ((w1.alloc (.map #[] 0)).alloc (.cells #[.slice A1 l.length c1,.map (some w1.heap.size),.slice none 0 0] 94)) w4→(∀k,Ac A1=some k→w.heap.size≤k∧k<w1.heap.size)→
   Jh (l.map CdR.c) w (.returned (.pointer (some ⟨w1.heap.size+1,0,none⟩))) w4):=by
  intro A1 c1 w1 w4 f1 o4 f4 aa;have ag:¬Ac A1=some w1.heap.size:=fun e=>by have:=(aa _ e).2;omega
  have ai:¬Ac A1=some (w1.heap.size+1):=fun e=>by have:=(aa _ e).2;omega
  have bg:=Blk.new (w1.alloc (.map #[] 0)) 94 #[.slice A1 l.length c1,.map (some w1.heap.size),.slice none 0 0];rw [Ao2] at bg;have hm:=((MapAt.made w1).fr ((Fr.refl Non _).alloc (.cells #[.slice A1 l.length c1,.map (some w1.heap.size),.slice none 0 0] 94)) zq).fr f4 ag;have sz:=f1.size;refine ⟨⟨w1.heap.size+1,w1.heap.size,0,A1,c1,l.map CdR.c,none,0,[]⟩,rfl,?_,rfl,rfl,?_⟩
  ·
   refine ⟨?_,hpos,by show _≤w1.heap.size+1;omega,sz,?_,Own.nil _ _ _ _,Ao3 _,Ao3 _,(fun n hn=>absurd hn (Ap0)),?_,?_,hm,fun n hn=>absurd hn (Ap0)⟩
   ·
    have h1:=bg.fr f4 ai;show Blk w4 (w1.heap.size+1) 94 #[.slice A1 (l.map CdR.c).length c1,.map (some w1.heap.size),.slice none 0 0];rw [An1];exact h1
   ·
    show Own w4 w.heap.size 71 5 A1 (l.map CdR.c).length c1 ((l.map CdR.c).flatMap Cd.cells);rw [An1,← Lv];exact o4
   ·
    show (l.map CdR.c).length≤1000000;rw [An1];exact hlen
   ·
    intro c hc;obtain ⟨x,hx,rfl⟩:=List.mem_map.1 hc;exact hcs x hx
  · exact ((f1.alloc _).alloc _).trans f4 (fun k hk e=>absurd hk (by have:=(aa k e).1;omega))
 generalize Jh (l.map CdR.c) w=POST at*;have ks:=Lib.hid (fun (A1:Option Addr) (c1:Nat) (w3:World) (o:Own w3 w.heap.size 71 5 A1 l.length c1 (l.flatMap CdR.cells))=>Ab9 w.heap.size A1 c1 l w3 o hlen);have ab:=Lib.hid (fun (ys:List CdR) (hp:ys.Perm l) (hq:ys.Pairwise (fun x y=>x.c.d≤y.c.d))=>Ac0 hp hq hs);clear hr hs hcs;go_enter Tryz.func33,Tryz.ntmps33;go_wp2_with (fail);refine (kc.out).mono ?_;rintro _ w1 ⟨A1,c1,rfl,o1,f1⟩;have aa:=o1.row;have bg:=Blk.new (w1.alloc (.map #[] 0)) 94 #[.slice A1 l.length c1,.map (some w1.heap.size),.slice none 0 0];rw [Ao2] at bg;have o3:=(o1.alloc (.map #[] 0)).alloc (.cells #[.slice A1 l.length c1,.map (some w1.heap.size),.slice none 0 0] 94);have g0:((w1.alloc (.map #[] 0)).alloc (.cells #[.slice A1 l.length c1,.map (some w1.heap.size),.slice none 0 0] 94)).cell? ⟨w1.heap.size+1,0,none⟩=some (.slice A1 l.length c1):=bg.cell 0;have kq:=Lib.hid (ks.out A1 c1 _ o3);have hp:=Lib.hid (fun (w4:World) o f=>ac.out A1 c1 w1 w4 f1 o f aa);have af:=Lib.hid f1;clear kc ks ac o1 o3 aa f1 bg;have aj:=@run_makeMap Tryz.prog;go_wp2_with (fail);refine (kq.out).mono ?_;rintro _ w4 ⟨rfl,ys,ad,ae,o4,f4⟩;obtain rfl:=ab.out ys ad ae;have ah:=Lib.hid (hp.out w4 o4 f4);clear kq hp ab o4 f4 ad ae af g0;go_wp2_with (fail);exact ah.out
theorem Ac2 (n:Nat):Sg.pub n<18446744073709551616:=An3 (Fd.pow_lt _ _) (by decide)
theorem cd_d (d m:Int) (l k s:Nat):(Cd.mk d m l k s).d=d:=rfl
theorem cd_s' (d m:Int) (l k s:Nat):(Cd.mk d m l k s).s=s:=rfl
theorem Dg (k:Nat) (m:Int):(B1 k m).d=(k:Int)+1:=cd_d _ _ _ _ _
theorem Hk (k:Nat) (m:Int):(B1 k m).s=Sg.pub (sec Bj (k+1)):=cd_s' _ _ _ _ _
theorem Lw:∀(l:List Int) (i:Nat),i+l.length≤1000→∃xs:List CdR,xs.map CdR.c=Ba i l∧xs.Pairwise (fun x y=>x.c.d<y.c.d)∧(∀x∈xs,(i:Int)<x.c.d)∧∀x∈xs,x.c.s<18446744073709551616
 |[],i,_=>⟨[],rfl,List.Pairwise.nil,by simp,by simp⟩
 |m::r,i,h=>by
  have h':i+1+r.length≤1000:=by rw [List.length_cons] at h;omega
  have hi:i+1≤1000:=by omega
  obtain ⟨xs,h1,h2,h3,h4⟩:=Lw r (i+1) h';refine ⟨⟨B1 i m,by rw [Dg];omega,by rw [Dg];omega⟩::xs,?_,?_,?_,?_⟩
  ·
   show B1 i m::xs.map CdR.c=B1 i m::Ba (i+1) r;rw [h1]
  ·
   refine List.pairwise_cons.2 ⟨fun x hx=> ?_,h2⟩;show (B1 i m).d<x.c.d;rw [Dg];have:=h3 x hx;omega
  ·
   intro x hx
   rcases List.mem_cons.1 hx with rfl|hx
   ·
    show (i:Int)<(B1 i m).d;rw [Dg];omega
   ·
    have:=h3 x hx;omega
  ·
   intro x hx
   rcases List.mem_cons.1 hx with rfl|hx
   ·
    show (B1 i m).s<_;rw [Hk];exact Ac2 _
   · exact h4 x hx
theorem Ac3 (B n c:Nat) (A:Option Addr) (l:List Int) (w:World) (hn:Hid (l.length=n)) (hnm:n≤1000) (hr:Rd w B 5 A n ((Ba 0 l).flatMap Cd.cells)) (hpos:0<w.heap.size):
  Calls Tryz.prog 33 #[.slice A n c] w (Jh (Ba 0 l) w):=by
 obtain ⟨xs,h1,h2,_,h4⟩:=Lw l 0 (by rw [hn.out];omega)
 have hl:xs.length=n:=by
  have:=congrArg An6 h1;rw [An1,Pz,hn.out] at this;exact this
 rw [← h1] at hr ⊢;rw [← hl] at hr ⊢;rw [← Lv] at hr;exact Ac1 B c A xs w hr h2 (by omega) hpos h4
theorem GAt.ge {w:World} {base:Nat} {g:Gph} (h:GAt w base g) {k:Nat} (hk:g.own k):base≤k:=by
 rcases hk with e|e|e
 · rw [e];exact h.gbase
 · rw [e];exact h.mbase
 · exact (h.own.row k e).1
theorem KindsAt.own {w w':World} {base:Nat} {g:Gph} (h:KindsAt w) (hg:GAt w base g) (hf:Fr g.own w w'):KindsAt w':=fun k hk=>hf.cell (h k hk) (fun e=>by have h1:=hg.ge e;have h2:=hg.pos;have h3:base≤0:=h1;omega)
def Ip (base:Nat) (g:Gph) (l:List Pn) (w:World) (e:Ending) (w':World):Prop:=
 e=.returned (.int .i64 0)∧∃g':Gph,GAt w' base g'∧g'.gb=g.gb∧g'.cards=g.cards∧g'.pns=l∧Fr g.own w w'
theorem Ac4 {base:Nat} {g:Gph} {x:OpL} {w:World} {l:List Pn} {p:Pn} (hl:g.pns=l) (hg:GAt w base g) (hat:x.at w w.heap.size) (hok:x.op.ok) (hkn:KindsAt w) (he:Ar g.cards l x.op=0) (hp:As l x.op=p):
  Calls Tryz.prog 34 #[.pointer (some ⟨g.gb,0,none⟩),.agg x.cells] w (Ip base g (l++[p]) w):=by
 subst hl;refine (K5 base g x w hg hat hok hkn).mono ?_;rintro e w' ⟨rfl,h⟩
 rcases h with ⟨h0,_⟩|⟨_,g',h1,h2,_,h4,h5,h6,_⟩
 · exact absurd he h0
 ·
  refine ⟨by rw [he],g',h1,h2,h4,?_,h6⟩;rw [h5,hp]
theorem Ac5 {o:Op} (h:o.ok):(sgn o).ok:=by
 have h1:Sg.r (sec Bj o.by_.toNat) o.bare<18446744073709551616:=An3 (Sg.r_lt _ _) (by decide);have h2:Sg.s (sec Bj o.by_.toNat) o.bare<18446744073709551616:=An3 (Sg.s_lt _ _) (by decide);unfold sgn;generalize Sg.r (sec Bj o.by_.toNat) o.bare=R at*;generalize Sg.s (sec Bj o.by_.toNat) o.bare=S at*;exact {h with r:=h1,s:=h2}
end Oq
namespace Oq
attribute [local go_sem ↓] Cg Es
attribute [local go_sem] Am9 An0
theorem Rows.step {cards:List Cd} {l:List Pn} (h:Rows cards l) {i:Nat} {n:Pn} (hi:l[i]? =some n):Ar cards (l.take i) n.o=0∧As (l.take i) n.o=n:=by
 induction h with
 |nil=>simp at hi
 |snoc l o hl ho ih=>
  rcases Nat.lt_or_ge i l.length with hlt|hge
  ·
   rw [List.getElem?_append_left hlt] at hi;rw [List.take_append_of_le_length (An5 hlt)];exact ih hi
  ·
   have e:i=l.length:=by
    have:=(List.getElem?_eq_some_iff.1 hi).1;rw [List.length_append,List.length_singleton] at this;omega
   subst e;rw [List.getElem?_append_right (Nat.le_refl _),Nat.sub_self] at hi;injection hi with hi
   subst hi;rw [List.take_left']
   · exact ⟨ho,rfl⟩
   · rfl
end Oq
end
section
open Go.RowKit
namespace Oq
def bef (l:List Pn) (a b:Id):Bool:=match plc l a,plc l b with|some i,some j=>(l[j]?.map (fun n=>n.ps i)).getD false|_,_=>false
theorem bef_iff {l:List Pn} {a b:Id}:bef l a b=true↔∃i j m,plc l a=some i∧plc l b=some j∧l[j]? =some m∧m.ps i=true:=by
 unfold bef;constructor
 ·
  intro h
  split at h
  ·
   rename_i i j hi hj;obtain ⟨m,hm,_⟩:=Bw hj;rw [hm] at h;exact ⟨i,j,m,hi,hj,hm,h⟩
  · cases h
 ·
  rintro ⟨i,j,m,h1,h2,h3,h4⟩;rw [h1,h2];dsimp only;rw [h3];exact h4
theorem Gph.before_eq (g:Gph) (a b:Id):g.before a b=bef g.pns a b:=by
 unfold Gph.before bef Gph.pns;rw [Fc,Fc]
 split
 ·
  rename_i i j hi hj;rw [hi,hj];dsimp only;rw [An4,Option.map_map];rfl
 ·
  rename_i h
  split
  ·
   rename_i i j hi hj;exact absurd hj (h i j hi)
  · rfl
theorem Ac6 {g:Gph} {l:List Pn} (hl:g.pns=l) {a:Id} {p:Nat} {n:Pn} (hp:plc l a=some p) (hn:l[p]? =some n):∃x,g.opOf a=some x∧x.op=n.o:=by
 subst hl;unfold Gph.pns at hp hn;rw [Fc] at hp;rw [An4] at hn;obtain ⟨m,hm,rfl⟩:=Option.map_eq_some_iff.1 hn;exact ⟨m.x,by unfold Gph.opOf;rw [hp];dsimp only;rw [hm];rfl,rfl⟩
theorem Rows.named {cards:List Cd} {l:List Pn} (h:Rows cards l) {ids:List Id} (hp:ids.Perm (l.map Pn.id)) {a:Id} (ha:a∈ids):∃p n,plc l a=some p∧l[p]? =some n∧n.id=a:=by
 obtain ⟨n,hn,rfl⟩:=List.mem_map.1 (hp.mem_iff.1 ha);obtain ⟨p,hp⟩:=List.getElem?_of_mem hn;exact ⟨p,n,(h.ok p n hp).plc,hp,rfl⟩
end Oq
end
section
open Go.RowKit
attribute [local go_sem ↓] Go.wp_at_zero Go.wp_at_succ
namespace Oq
attribute [local go_sem ↓] E8
end Oq
namespace Oq
attribute [local go_sem] Am9 An0
attribute [local go_sem ↓] E8
end Oq
end
end Go.Proofs.YtkanjaikgphjfaaGreatDoor
