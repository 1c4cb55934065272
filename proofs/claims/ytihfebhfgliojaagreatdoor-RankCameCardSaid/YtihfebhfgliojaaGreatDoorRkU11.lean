/-
  Contracts of the functions that the claim's statement reaches, walked one by one (part 11).
  Conditions: as each theorem says.
-/
import Derived.Shelf.SlSortCmp.InsertionK
import Derived.Shelf.SlSortCmp.NoneTotal
import Derived.Shelf.SlSortCmp.WholeK
import Derived.Ground.SlsfProg
import Derived.Ground.NamesProg
import Derived.Shelf.SlGeneric
import Derived.ChangeKeysEq
import Derived.Test.YtihfebhfgliojaaGreatDoorRkU7
import Derived.Test.YtihfebhfgliojaaGreatDoorRkU10
set_option maxRecDepth 100000
set_option maxHeartbeats 16000000
open Array renaming getElem?_append_left->Ay1,getElem?_modify->Ay2
open Bool renaming not_false->Ax3,not_true->Ax4,eq_false_or_eq_true->Ay0
open List renaming mem_of_getElem?->Ax6,getElem?_eq_getElem->Ax8,any_eq_false->Ax9,getElem?_map->Ay3
open Nat renaming zero_add->Ax5,ne_of_lt->Ax7
open Go.Proofs.Tryz
open Go.Proofs.Tryz renaming prog->zp
open Go.Lib renaming hid->lh
open List renaming set->zl
open Go.Ending renaming returned->ze
namespace Go.Proofs.YtihfebhfgliojaaGreatDoor
open Go.RowKit
attribute [local go_sem ↓] Go.wp_at_zero Go.wp_at_succ
namespace Oq
theorem Ad1 {G P:Prop} (h:P->G) (hp:P):G:=h hp
theorem Ka {c:Prop} [Decidable c] {A B:Prop} (h:c) (ha:A):if c then A else B:=by rw [if_pos h];exact ha
def bdS (t:TypeId) (parts:Array (Nat × Value)):=Instr.build t parts
theorem Sb (p:Array (Nat × Value)):Instr.build 114 p=bdS 114 p:=rfl
theorem Ad2 {P:Program} (w:World) (t:TypeId) (parts:Array (Nat × Value)) (cells:Array Value) (h:P.built t parts.toList=some cells):(bdS t parts).run P w=.ok (.agg cells) w:=run_build w t parts cells h
attribute [local go_sem ↓] Cj Ju Jv Sb
attribute [local go_sem] Ax3 Ax4
def AddPost (base:Nat) (g:Gph) (o:Op) (w:World) (e:Ending) (w':World):Prop:=
 e=.returned (.int .i64 (An g.cards g.pns o))/\
 ((An g.cards g.pns o≠0/\Fr Non w w')\/(An g.cards g.pns o=0/\∃g':Gph,GAt w' base g'/\g'.gb=g.gb/\g'.mb=g.mb/\g'.cards=g.cards/\g'.pns=g.pns++[Be g.pns o]/\Fr g.own w w'/\(∀k,k<w.heap.size->g'.own k->g.own k)/\∃n:Ai,g'.nodes=g.nodes++[n]/\n.x.own w' w.heap.size))
theorem AddPost.bad {base:Nat} {g:Gph} {o:Op} {w w':World} {err:Int} (h:An g.cards g.pns o=err) (h0:err≠0) (hf:Fr Non w w'):AddPost base g o w (.returned (.int .i64 err)) w':=by
 subst h;exact ⟨rfl,.inl ⟨h0,hf⟩⟩
theorem Ad3 (y:OpL) (b s:Int) (u:Nat):zp.built 114 [(0,.agg y.cells),(1,.agg #[.int .i64 b,.int .i64 s,.int .u64 (u:Int)]),(3,.int .i64 1)]=some (⟨y,⟨b,s,u⟩,0,0,0,0,1⟩:Ai).cells.toArray:=by kernel_rfl
structure M8 (w w':World) (base:Nat) (g:Gph) (x y:OpL) (gn:Nat):Prop where
 hg:GAt w base g
 hat:x.at w w.heap.size
 hok:x.op.ok
 bx:Blk w' w.heap.size 44 x.cells
 bn:Blk w' gn 114 (⟨y,x.op.name,0,0,0,0,1⟩:Ai).cells.toArray
 gn:w.heap.size<gn
 yop:y.op=x.op
 yown:y.own w' w.heap.size
 fr:Fr Non w w'
 chk:x.op.chk=0
 few:g.nodes.length<200
 all:x.past.any (fun id=>(plc g.pns id).isNone)=false
 new:plc g.pns x.op.name=none
 err:An g.cards g.pns x.op=if clash g.pns x.op.past=true\/x.op.at_<late g.pns x.op.past then 6 else if Bn g.pns (Aq g.pns x.op.past) x.op=true then 11 else 0
section
variable {cards : List Cd} {l : List Pn} {o : Op}
theorem Sc (h:o.chk≠0):An cards l o=o.chk:=by unfold An;rw [if_pos h]
theorem Sd (h:o.chk=0) (h2:(plc l o.name).isSome=true):An cards l o=5:=by unfold An;rw [h,if_neg (by simp),if_pos h2]
theorem Se (h:o.chk=0) (h2:plc l o.name=none) (h3:200<=l.length):An cards l o=3:=by unfold An;rw [h,h2,if_neg (by simp),if_neg (by simp),if_pos h3]
theorem Kb (h:o.chk=0) (h2:plc l o.name=none) (h3:l.length<200):An cards l o=match Ct cards o.by_ with
  |none=>17
  |some c=>
   if Sg.check c.s o.bare o.r o.s=false then 12
   else if o.kind=1/\l≠[] then 1
   else if o.past.any (fun id=>(plc l id).isNone)=true then 10
   else if clash l o.past=true\/o.at_<late l o.past then 6
   else if Bn l (Aq l o.past) o=true then 11
   else 0:=by unfold An;rw [h,h2,if_neg (by simp),if_neg (by simp),if_neg (by omega)];rfl
end
theorem M9 (o:Op):U64 o.id:=by
 have h:o.id<2305843009213693951:=Hs.of_lt _ _;exact Nat.lt_trans h (by decide)
theorem Ad4 (g:Gph) (l:List Id):(l.filter (fun id=> !(Ak g.nodes id).isSome)).length=0<->l.any (fun id=>(plc g.pns id).isNone)=false:=by
 rw [List.length_eq_zero_iff,List.filter_eq_nil_iff,Ax9]
 have h:∀id,(plc g.pns id).isNone=!(Ak g.nodes id).isSome:=by
  intro id;show (plc (g.nodes.map Ai.pn) id).isNone=_;rw [Gf]
  cases Ak g.nodes id<;>rfl
 constructor
 ·
  intro h1 id hid;rw [h];exact h1 id hid
 ·
  intro h1 id hid;have:=h1 id hid;rwa [h] at this
structure AddS0 (w w':World) (base:Nat) (g:Gph) (x y:OpL) (gn ui:Nat):Prop where
 hg:GAt w base g
 hat:x.at w w.heap.size
 hok:x.op.ok
 chk:x.op.chk=0
 id:x.op.id=ui
 bx:Blk w' w.heap.size 44 x.cells
 bn:Blk w' gn 114 (⟨y,⟨x.by_,x.sq,ui⟩,0,0,0,0,1⟩:Ai).cells.toArray
 gn:w.heap.size<gn
 yop:y.op=x.op
 yown:y.own w' w.heap.size
 fr:Fr Non w w'
def addA:PSigma (fun P:Prop=>PLift P->∀(base:Nat) (g:Gph) (x:OpL) (w:World),GAt w base g->x.at w w.heap.size->x.op.ok->KindsAt w->Calls zp 17 #[.pointer (some ⟨g.gb,0,none⟩),.agg x.cells] w (AddPost base g x.op w)):=PSigma.mk _ (by
 intro hP base g x w hg hat hok hkn;have hi:(zp.info? 44).map (·.size)=some 27:=by kernel_rfl
 have bj:(zp.info? 114).map (·.size)=some 35:=by kernel_rfl
 have az:x.past.length<=1000000:=by have h:=hok.past.1;rw [show x.op.past=x.past from rfl] at h;omega
 have f0:Fr Non w (w.alloc (.cells x.cells 44)):=(Fr.refl Non w).alloc _;have br:=Blk.new w 44 x.cells;have bw:=Bi (P:=zp) w.heap.size 44 underlying44 rfl (cs:=x.cells) hi;have ai:=lh (fun w' (h:Fr Non w w')=>Mp x w' (OpL.frame hat h) hok (hkn.fr h));have bo:=lh (fun w' (h:x.at w' w'.heap.size)=>Q9 x w' h hok);have a4:=lh (fun w' (h:x.at w' w'.heap.size)=>Xj x w' h hok);have bu:=lh (fun w' (h:Fr Non w w')=>Pq base g x.by_ w' (hg.fr h) hg.cfew);have bp:=lh (fun (c:Cd) (hc:c.s<18446744073709551616) w' (h:x.at w' w'.heap.size)=>Qm c.d c.m c.l c.k c.s x w' h hok hc);have b0:=lh (fun w' (h:Fr Non w w')=>Rb base g x w' Rh (hg.fr h) (OpL.frame hat h) (fun id hid=>hok.past.2 id hid) az);have bl:=lh (fun (y:OpL) (ui:Nat) (w':World)=>Ad2 (P:=zp) w' 114 #[(0,.agg y.cells),(1,.agg #[.int .i64 x.by_,.int .i64 x.sq,.int .u64 (ui:Int)]),(3,.int .i64 1)] _ (Ad3 y x.by_ x.sq ui));have a5:=lh (fun (err:Int) (w':World) (h:An g.cards g.pns x.op=err) (h0:err≠0) (hf:Fr Non w w')=>AddPost.bad (base:=base) h h0 hf);have a1:=M9 x.op;obtain ⟨ui,bi⟩:=Aa x.op.id
 have au:Hid (x.op.name=⟨x.by_,x.sq,ui⟩):=by
  show _=_;unfold Op.name;rw [bi.out];rfl
 have bs:Hid (plc g.pns x.op.name=Ak g.nodes ⟨x.by_,x.sq,ui⟩):=by
  show _=_;rw [au.out];exact Gf _ _
 rw [bi.out] at a1;have be:(Id.mk x.by_ x.sq ui).ok:=⟨hok.by_,hok.sq,a1⟩;obtain ⟨CX,a6⟩:=Aa x.cells;have e0:Hid (CX[0]? =some (.int .i64 x.by_)):=by show _=_;rw [<- a6.out];rfl
 have e2:Hid (CX[2]? =some (.int .i64 x.kind)):=by show _=_;rw [<- a6.out];rfl
 rw [a6.out] at f0 br bw ai bo a4 bp b0 ⊢;have b4:=lh hg;have bb:=lh hok;have bq:=lh hat;unfold J8 at ai;unfold Mn at a4;unfold Fg at bu;unfold Ag at bp;obtain ⟨EC,bh⟩:=Aa x.op.chk;rw [bh.out] at ai;rw [bi.out] at a4;have bg:Hid (∀e w',AddPost base g x.op w e w'->AddPost base g x.op w e w'):=fun _ _ h=>h;clear hkn hok;go_enter func17,ntmps17;go_upto_region 1 with (fail)
 generalize w.alloc (.cells CX 44)=w0 at*;go_wp2_with fail;refine (ai.out _ f0).mono ?_;rintro _ w1 ⟨rfl,f1⟩;have bx:=br.fr f1 zq;have aj:=f0.trans f1 zr;clear br f0 f1 ai
 by_cases hc0:EC=0
 case neg=>
  have hb:(EC !=0)=true:=by simpa using hc0
  have bd:=lh (a5.out EC w1 ((Sc (by rw [bh.out];exact hc0)).trans bh.out) hc0 aj);clear hc0 a5 hP;go_wp2_with fail
  go_ret
  exact bd.out
 case pos=>
  subst hc0;go_upto_region 4 with (fail)
  obtain ⟨wd,ba⟩:=Aa w1.drew;have ax:Blk wd w.heap.size 44 CX:=by rw [<- ba.out];exact bx.drew
  have a8:Fr Non w wd:=by rw [<- ba.out];exact aj.drew
  have bn:x.at wd wd.heap.size:=OpL.frame hat a8;have bv:w.heap.size<wd.heap.size:=ax.lt;apply Ad1
  case h=>
   intro bd;refine wp_region_held_drew (S:=fun w'=>Blk w' w.heap.size 44 CX) (by kernel_rfl) (by rw [ba.out];exact ax) (fun _=> ?_);rw [ba.out];refine tkH 0 ax (h:=?_);(try simp only [zl]);refine tkH 2 ax (h:=?_);(try simp only [zl]);refine wpAnyH_ready (rs:=[1,5]) (by kernel_rfl) (by simp) ?_;refine AllReadyH.cons rfl (fun K hK=> ?_) ?_
   ·
    refine Ka (by kernel_rfl) ?_;go_simp;go_wp2_with (go_at_call 63;(with_reducible refine (bo.out _ bn).mono ?_);rintro _ u1 ⟨y,rfl,af,ag,f1⟩);have a2:=ax.fr f1 zq;have a7:=OpL.frame bn f1;have aj:=a8.trans f1 zr;refine hK.out _ _ a2 (fun _=> ?_);clear hK K;try simp only [Ah,zl]
    refine wpAnyH_ready (rs:=[3,5]) (by kernel_rfl) (by simp) ?_;refine AllReadyH.cons rfl (fun K hK=> ?_) ?_
    ·
     refine Ka (by kernel_rfl) ?_;go_simp;go_wp2_with (go_at_call 64;(with_reducible refine (a4.out _ a7).mono ?_);rintro _ u2 ⟨rfl,f2⟩);have ak:=a2.fr f2 zq;have a3:=OpL.frame a7 f2;have a9:=aj.trans f2 zr;refine hK.out _ _ ak (fun _=> ?_);clear hK K;try simp only [Ah,zl]
     have bf:=fun w'=>bl.out y ui w';refine tkH 4 ak (h:=?_);(try simp only [zl]);clear bf;refine Di 5 (by kernel_rfl) rfl (by kernel_rfl) (fun K hK=> ?_);go_simp;have b5:=Blk.new u2 114 zN;have bm:Fr Non u2 (u2.alloc (.cells zN 114)):=(Fr.refl Non _).alloc _;have al:=ak.fr bm zq;have b2:=OpL.frame a3 bm;have bc:=a9.trans bm zr;refine hK.out _ _ al (fun _=> ?_);clear hK K;try simp only [Ah,zl]
     have bz:=b5;have ap:w.heap.size<=u2.heap.size:=a9.size;have a0:w.heap.size≠u2.heap.size:=Ax7 ak.lt;have yo:=(ag.non f2).non bm;have ad:w.heap.size<=wd.heap.size:=a8.size;refine Di 6 (by kernel_rfl) rfl (by kernel_rfl) (fun K hK=> ?_);have aa:=Jw (⟨y,⟨x.by_,x.sq,ui⟩,0,0,0,0,1⟩:Ai);obtain ⟨NC,ac⟩:=Aa (⟨y,⟨x.by_,x.sq,ui⟩,0,0,0,0,1⟩:Ai).cells.toArray;have ae:(zp.info? 114).map (·.size)=some NC.size:=by rw [<- ac.out];exact bj
     have ab:NC.size=35:=by rw [<- ac.out];rfl
     rw [ac.out] at aa ⊢;refine Ir 114 (.tmp 6) (.tmp 32) (g:=u2.heap.size) (cs:=NC) rfl rfl (by rfl) (by rfl) bz ae ab.symm aa ?_;have aw:w.heap.size≠u2.heap.size:=a0;have ah:=al.setRow_far (cs:=NC) aw;have ar:=bz.setRow (cs:=NC);have ay:=bc.setRow (g:=u2.heap.size) (fun h=>absurd h (Nat.not_lt.2 ap)) NC;have av:=(yo.keepP ((Fr.refl (One (u2.heap.size)) (u2.alloc (.cells zN 114))).setRow (g:=u2.heap.size) (fun _=>rfl) NC) (Types.one bz) (by decide) (by decide) (by decide) (by decide) (by decide) (by decide) (by decide)).lower ad;have aq:w.heap.size<u2.heap.size:=by omega
     refine hK.out _ _ ah (fun hzz=> ?_);clear hK K hzz;refine oD ?_;go_simp;clear aw aa bz ap a0 ad yo ag ae ab;revert av ay ar ah af aq;generalize (u2.alloc (.cells zN 114)).setRow (u2.heap.size) NC=wF;generalize u2.heap.size=gs;rw [<- ac.out];clear ac NC;revert wF gs y;exact bd
    refine AllReadyH.cons rfl (fun K hK=> ?_) AllReadyH.nil
    ·
     refine Ka (by kernel_rfl) ?_;go_simp;have b3:=Blk.new u1 114 zN;have bk:Fr Non u1 (u1.alloc (.cells zN 114)):=(Fr.refl Non _).alloc _;have ak:=a2.fr bk zq;have a3:=OpL.frame a7 bk;have a9:=aj.trans bk zr;refine hK.out _ _ ak (fun _=> ?_);clear hK K;try simp only [Ah,zl]
     refine Di 3 (by kernel_rfl) rfl (by kernel_rfl) (fun K hK=> ?_);go_simp;go_wp2_with (go_at_call 64;(with_reducible refine (a4.out _ a3).mono ?_);rintro _ u3 ⟨rfl,f3⟩);have al:=ak.fr f3 zq;have b2:=OpL.frame a3 f3;have bc:=a9.trans f3 zr;refine hK.out _ _ al (fun _=> ?_);clear hK K;try simp only [Ah,zl]
     have bf:=fun w'=>bl.out y ui w';refine tkH 4 al (h:=?_);(try simp only [zl]);clear bf;have bz:=b3.fr f3 zq;have ap:w.heap.size<=u1.heap.size:=aj.size;have a0:w.heap.size≠u1.heap.size:=Ax7 a2.lt;have yo:=(ag.non bk).non f3;have ad:w.heap.size<=wd.heap.size:=a8.size;refine Di 6 (by kernel_rfl) rfl (by kernel_rfl) (fun K hK=> ?_);have aa:=Jw (⟨y,⟨x.by_,x.sq,ui⟩,0,0,0,0,1⟩:Ai);obtain ⟨NC,ac⟩:=Aa (⟨y,⟨x.by_,x.sq,ui⟩,0,0,0,0,1⟩:Ai).cells.toArray;have ae:(zp.info? 114).map (·.size)=some NC.size:=by rw [<- ac.out];exact bj
     have ab:NC.size=35:=by rw [<- ac.out];rfl
     rw [ac.out] at aa ⊢;refine Ir 114 (.tmp 6) (.tmp 32) (g:=u1.heap.size) (cs:=NC) rfl rfl (by rfl) (by rfl) bz ae ab.symm aa ?_;have aw:w.heap.size≠u1.heap.size:=a0;have ah:=al.setRow_far (cs:=NC) aw;have ar:=bz.setRow (cs:=NC);have ay:=bc.setRow (g:=u1.heap.size) (fun h=>absurd h (Nat.not_lt.2 ap)) NC;have av:=(yo.keepP ((Fr.refl (One (u1.heap.size)) (u3)).setRow (g:=u1.heap.size) (fun _=>rfl) NC) (Types.one bz) (by decide) (by decide) (by decide) (by decide) (by decide) (by decide) (by decide)).lower ad;have aq:w.heap.size<u1.heap.size:=by omega
     refine hK.out _ _ ah (fun hzz=> ?_);clear hK K hzz;refine oD ?_;go_simp;clear aw aa bz ap a0 ad yo ag ae ab;revert av ay ar ah af aq;generalize (u3).setRow (u1.heap.size) NC=wF;generalize u1.heap.size=gs;rw [<- ac.out];clear ac NC;revert wF gs y;exact bd
   refine AllReadyH.cons rfl (fun K hK=> ?_) AllReadyH.nil
   ·
    refine Ka (by kernel_rfl) ?_;go_simp;have b7:=Blk.new wd 114 zN;have bt:Fr Non wd (wd.alloc (.cells zN 114)):=(Fr.refl Non _).alloc _;have a2:=ax.fr bt zq;have a7:=OpL.frame bn bt;have aj:=a8.trans bt zr;refine hK.out _ _ a2 (fun _=> ?_);clear hK K;try simp only [Ah,zl]
    refine Di 1 (by kernel_rfl) rfl (by kernel_rfl) (fun K hK=> ?_);go_simp;go_wp2_with (go_at_call 63;(with_reducible refine (bo.out _ a7).mono ?_);rintro _ u2 ⟨y,rfl,af,ag,f2⟩);have ak:=a2.fr f2 zq;have a3:=OpL.frame a7 f2;have a9:=aj.trans f2 zr;refine hK.out _ _ ak (fun _=> ?_);clear hK K;try simp only [Ah,zl]
    refine Di 3 (by kernel_rfl) rfl (by kernel_rfl) (fun K hK=> ?_);go_simp;go_wp2_with (go_at_call 64;(with_reducible refine (a4.out _ a3).mono ?_);rintro _ u3 ⟨rfl,f3⟩);have al:=ak.fr f3 zq;have b2:=OpL.frame a3 f3;have bc:=a9.trans f3 zr;refine hK.out _ _ al (fun _=> ?_);clear hK K;try simp only [Ah,zl]
    have bf:=fun w'=>bl.out y ui w';refine tkH 4 al (h:=?_);(try simp only [zl]);clear bf;have bz:Blk u3 wd.heap.size 114 zN:=(b7.fr f2 zq).fr f3 zq;have ap:w.heap.size<=wd.heap.size:=Nat.le_of_lt bv;have a0:w.heap.size≠wd.heap.size:=Ax7 ax.lt;have yo:=ag.non f3;have ad:w.heap.size<=(wd.alloc (.cells zN 114)).heap.size:=aj.size;refine Di 6 (by kernel_rfl) rfl (by kernel_rfl) (fun K hK=> ?_);have aa:=Jw (⟨y,⟨x.by_,x.sq,ui⟩,0,0,0,0,1⟩:Ai);obtain ⟨NC,ac⟩:=Aa (⟨y,⟨x.by_,x.sq,ui⟩,0,0,0,0,1⟩:Ai).cells.toArray;have ae:(zp.info? 114).map (·.size)=some NC.size:=by rw [<- ac.out];exact bj
    have ab:NC.size=35:=by rw [<- ac.out];rfl
    rw [ac.out] at aa ⊢;refine Ir 114 (.tmp 6) (.tmp 32) (g:=wd.heap.size) (cs:=NC) rfl rfl (by rfl) (by rfl) bz ae ab.symm aa ?_;have aw:w.heap.size≠wd.heap.size:=a0;have ah:=al.setRow_far (cs:=NC) aw;have ar:=bz.setRow (cs:=NC);have ay:=bc.setRow (g:=wd.heap.size) (fun h=>absurd h (Nat.not_lt.2 ap)) NC;have av:=(yo.keepP ((Fr.refl (One (wd.heap.size)) (u3)).setRow (g:=wd.heap.size) (fun _=>rfl) NC) (Types.one bz) (by decide) (by decide) (by decide) (by decide) (by decide) (by decide) (by decide)).lower ad;have aq:w.heap.size<wd.heap.size:=by omega
    refine hK.out _ _ ah (fun hzz=> ?_);clear hK K hzz;refine oD ?_;go_simp;clear aw aa bz ap a0 ad yo ag ae ab;revert av ay ar ah af aq;generalize (u3).setRow (wd.heap.size) NC=wF;generalize wd.heap.size=gs;rw [<- ac.out];clear ac NC;revert wF gs y;exact bd
  case hp=>
   rename_i K hK;intro y wF gs af ah ar ay av aq;refine hK _ _ ?_;clear hK K;have H:AddS0 w wF base g x y gs ui:=⟨hg,hat,bb.out,bh.out,bi.out,by rw [a6.out];exact ah,ar,aq,af,av,ay⟩;have b6:=a6.out;subst b6;clear hg hat hi bj az bu bl a5 a1 bi au bs be b0 bp e0 e2 a6 b4 bb bq bg bh bw ax a8 bn bv bo a4 aj bx ba af ah ar ay av aq;clear w0 w1 wd;revert H;revert base g x w ui y wF gs;exact hP.down)
end Oq
namespace Oq
attribute [local go_sem ↓] Cj Ju Jv Sb
attribute [local go_sem] Ax3 Ax4
def addB : PSigma (fun P : Prop => PLift P -> addA.1) := PSigma.mk _ (by
  intro hP;conv => whnf
  intro base g x w ui y wF gs H;obtain ⟨hg, hat, hok, hEC0, hui0, baF, bsF, hgw, hyop, yoF, frF⟩ := H;have hi : (zp.info? 44).map (·.size) = some 27 := by kernel_rfl
  have lpast : x.past.length <= 1000000 := by have h := hok.past.1; rw [show x.op.past = x.past from rfl] at h; omega
  have hlx := Bi (P := zp) w.heap.size 44 underlying44 rfl (cs := x.cells) hi;have kcd := lh (fun w' (h : Fr Non w w') => Pq base g x.by_ w' (hg.fr h) hg.cfew);have kvr := lh (fun (c : Cd) (hc : c.s < 18446744073709551616) w' (h : x.at w' w'.heap.size) => Qm c.d c.m c.l c.k c.s x w' h hok hc);have klk := lh (fun w' (h : Fr Non w w') => Rb base g x w' Rh (hg.fr h) (OpL.frame hat h) (fun id hid => hok.past.2 id hid) lpast);have hbad := lh (fun (err : Int) (w' : World) (h : An g.cards g.pns x.op = err) (h0 : err ≠ 0) (hf : Fr Non w w') => AddPost.bad (base := base) h h0 hf);have hu64 := M9 x.op
  have hname : Hid (x.op.name = ⟨x.by_, x.sq, ui⟩) := by
    show _ = _;unfold Op.name;rw [hui0];rfl
  have hplc : Hid (plc g.pns x.op.name = Ak g.nodes ⟨x.by_, x.sq, ui⟩) := by
    show _ = _;rw [hname.out];exact Gf _ _
  rw [hui0] at hu64;have hidok : (Id.mk x.by_ x.sq ui).ok := ⟨hok.by_, hok.sq, hu64⟩;obtain ⟨CX, hCX⟩ := Aa x.cells;have e0 : Hid (CX[0]? = some (.int .i64 x.by_)) := by show _ = _; rw [<- hCX.out]; rfl
  have e2 : Hid (CX[2]? = some (.int .i64 x.kind)) := by show _ = _; rw [<- hCX.out]; rfl
  rw [hCX.out] at baF hlx kvr klk ⊢;have hok' := lh hok;have hEC := lh hEC0;have hui := lh hui0;have hyop' := lh hyop;unfold Fg at kcd;unfold Ag at kvr;clear hok hEC0 hui0 hyop;have yo0 := yoF;have n1 : wF.cell? ⟨gs, 27, none⟩ = some (.int .i64 x.by_) := bsF.cell 27;have n2 : wF.cell? ⟨gs, 28, none⟩ = some (.int .i64 x.sq) := bsF.cell 28;have n3 : wF.cell? ⟨gs, 29, none⟩ = some (.int .u64 (ui : Int)) := bsF.cell 29;have hgF := hg.fr frF;have c1 : wF.cell? ⟨g.gb, 1, none⟩ = some (.map (some g.mb)) := hgF.blk.cell 1;have hmap := hgF.map;have hlook : ∀ w', MapAt w' g.mb g.mm (Ak g.nodes) -> (Instr.lookup 116 (.map (some g.mb)) (.agg #[.int .i64 x.by_, .int .i64 x.sq, .int .u64 (ui : Int)]) true).run zp w' = .ok (.tuple #[.int .i64 (((Ak g.nodes ⟨x.by_, x.sq, ui⟩).getD 0 : Nat) : Int), .bool (Ak g.nodes ⟨x.by_, x.sq, ui⟩).isSome]) w' := fun w' h => MapAt.look h _ hidok;go_upto_region 5 with (fail)
  clear hgF
  cases hp : Ak g.nodes ⟨x.by_, x.sq, ui⟩
  case some i =>
    rw [hp] at hlook;have hfin := lh (fun w' h => hbad.out 5 w' (Sd hEC.out (by rw [hplc.out, hp]; rfl)) (by decide) h);clear hp hplc hbad hP kcd kvr klk
    as_aux_lemma =>
    refine wp_region_held_drew (S := (fun w' => w'.cell? ⟨gs, 27, none⟩ = some (.int .i64 x.by_) /\ w'.cell? ⟨gs, 28, none⟩ = some (.int .i64 x.sq) /\ w'.cell? ⟨gs, 29, none⟩ = some (.int .u64 (ui : Int)) /\ w'.cell? ⟨g.gb, 1, none⟩ = some (.map (some g.mb)) /\ MapAt w' g.mb g.mm (Ak g.nodes))) (by kernel_rfl) ⟨n1, n2, n3, c1, hmap⟩ (fun hS=> ?_);replace frF := frF.drew;refine tkH 0 hS (h:=tkH 1 hS (h:=tkH 2 hS (h:=tkH 3 hS (h:=tkH 4 hS (h:=tkH 5 hS (h:=tkH 6 hS (h:=tkH 7 hS (h:=tkH 8 hS (h:=tkH 9 hS (h:=tkH 10 hS (h:=tkH 11 hS (h:=?_))))))))))));simp only [zl];refine wpAnyH_done (by kernel_rfl) ?_ _;go_simp;go_wp2_with fail
    go_ret
    exact hfin.out _ frF
  case none =>
    rw [hp] at hlook;have hnew : Hid (plc g.pns x.op.name = none) := by show _ = _; rw [hplc.out, hp]
    clear hp hplc;refine wp_region_held_drew (S := (fun w' => w'.cell? ⟨gs, 27, none⟩ = some (.int .i64 x.by_) /\ w'.cell? ⟨gs, 28, none⟩ = some (.int .i64 x.sq) /\ w'.cell? ⟨gs, 29, none⟩ = some (.int .u64 (ui : Int)) /\ w'.cell? ⟨g.gb, 1, none⟩ = some (.map (some g.mb)) /\ MapAt w' g.mb g.mm (Ak g.nodes))) (by kernel_rfl) ⟨n1, n2, n3, c1, hmap⟩ (fun hS=> ?_);replace frF := frF.drew;refine tkH 0 hS (h:=tkH 1 hS (h:=tkH 2 hS (h:=tkH 3 hS (h:=tkH 4 hS (h:=tkH 5 hS (h:=tkH 6 hS (h:=tkH 7 hS (h:=tkH 8 hS (h:=tkH 9 hS (h:=tkH 10 hS (h:=tkH 11 hS (h:=?_))))))))))));simp only [zl];refine wpAnyH_done (by kernel_rfl) ?_ _;go_simp;clear hlook hS;replace baF : Blk wF.drew w.heap.size 44 CX := baF.drew;replace bsF := bsF.drew;replace yoF := yo0.non ((Fr.refl Non wF).drew);clear n1 n2 n3 c1 hmap yo0;generalize wF.drew = w2 at *;have hg2 := hg.fr frF;have c2 : w2.cell? ⟨g.gb, 2, none⟩ = some (.slice g.nA g.nodes.length g.nC) := hg2.blk.cell 2;have hlen : Hid (g.pns.length = g.nodes.length) := by show _ = _; unfold Gph.pns; rw [List.length_map]
    obtain ⟨nn, hnn⟩ := Aa g.nodes.length;rw [hnn.out] at c2 hlen;clear hg2
    by_cases hfull : 200 <= nn
    case pos =>
      have hb : decide ((200 : Int) <= (nn : Int)) = true := by rw [decide_eq_true_iff]; omega
      have hfin := lh (hbad.out 3 w2 (Se hEC.out hnew.out (by rw [hlen.out]; exact hfull)) (by decide) frF);clear hbad hP kcd kvr klk hfull
      as_aux_lemma =>
      go_wp2_with fail
      go_ret
      exact hfin.out
    case neg =>
      have hb : decide ((200 : Int) <= (nn : Int)) = false := by rw [decide_eq_false_iff_not]; omega
      have hrest := lh (Kb (cards := g.cards) hEC.out hnew.out (by rw [hlen.out]; omega));have hfew : Hid (nn < 200) := by show _ < _; omega
      clear hfull;have x0 : w2.cell? ⟨w.heap.size, 0, none⟩ = some (.int .i64 x.by_) := (baF.cell 0).trans e0.out;have kc1 := lh (kcd.out w2 frF);clear kcd;have hcard : Hid (Ct g.cards x.op.by_ = g.card x.by_) := rfl
      cases hcd : g.card x.by_
      case none =>
        rw [hcd] at kc1;have hfin := lh (fun w' h => hbad.out 17 w' (by rw [hrest.out, hcard.out, hcd]) (by decide) h);clear hrest hcard hcd hbad hP kvr klk
        as_aux_lemma =>
        have kc2 : Hid (Calls zp 65 #[.pointer (some ⟨g.gb, 0, none⟩), .int .i64 x.by_] w2 fun e w' => e = .returned (.tuple #[.agg #[.int .i64 0, .int .i64 0, .int .u64 0, .int .u64 0, .int .u64 0], .bool false]) /\ Fr Non w2 w') := kc1.out;clear kc1;go_upto_region 11 with (go_at_call 65; (with_reducible refine (kc2.out).mono ?_); rintro _ w3 ⟨rfl, f3⟩)
        have hfin2 := lh (fun w' h => hfin.out w' ((frF.trans f3 (fun _ _ e => e)).trans h (fun _ _ e => e)));go_wp2_with fail
        go_ret
        exact hfin2.out _ ((Fr.refl Non w3).alloc _)
      case some c =>
        have hcdf : g.cards.find? (fun c => c.d == x.by_) = some c := hcd;have hcm := List.mem_of_find?_eq_some hcdf;have hdd : (c.d == x.by_) = true := by have h := List.find?_some hcdf; exact h
        have hcd' : c.d = x.by_ := by simpa using hdd
        rw [hcd] at kc1;have hcs := hg.cok c hcm
        have hrest2 : Hid (An g.cards g.pns x.op = if Sg.check c.s x.op.bare x.op.r x.op.s = false then 12
              else if x.op.kind = 1 /\ g.pns ≠ [] then 1
              else if x.op.past.any (fun id => (plc g.pns id).isNone) = true then 10
              else if clash g.pns x.op.past = true \/ x.op.at_ < late g.pns x.op.past then 6
              else if Bn g.pns (Aq g.pns x.op.past) x.op = true then 11
              else 0) := by show _ = _; rw [hrest.out, hcard.out, hcd]
        have kv1 := lh (kvr.out c hcs);clear hrest hcard hcd kvr hcm hdd hcdf;rw [show (x.by_ == c.d) = true by rw [hcd']; simp, Bool.true_and] at kv1;have kc2 : Hid (Calls zp 65 #[.pointer (some ⟨g.gb, 0, none⟩), .int .i64 x.by_] w2 fun e w' => e = .returned (.tuple #[.agg #[.int .i64 c.d, .int .i64 c.m, .int .u64 (c.l : Int), .int .u64 (c.k : Int), .int .u64 (c.s : Int)], .bool true]) /\ Fr Non w2 w') := kc1.out;clear kc1 hcd' hcs;obtain ⟨sb, hsb⟩ := Aa (Sg.check c.s x.op.bare x.op.r x.op.s);rw [hsb.out] at hrest2;rw [show Sg.check c.s x.op.bare x.r x.s = sb from hsb.out] at kv1;clear hsb;go_upto_region 11 with (go_at_call 65; (with_reducible refine (kc2.out).mono ?_); rintro _ w3 ⟨rfl, f3⟩)
        have f4 : Fr Non w2 (w3.alloc (.cells #[.int .i64 c.d, .int .i64 c.m, .int .u64 (c.l : Int), .int .u64 (c.k : Int), .int .u64 (c.s : Int)] 104)) := f3.alloc _;have bcd := Blk.new w3 104 #[.int .i64 c.d, .int .i64 c.m, .int .u64 (c.l : Int), .int .u64 (c.k : Int), .int .u64 (c.s : Int)];have baG := baF.fr f4 (fun e => e);have bsG := bsF.fr f4 (fun e => e);have yoG := yoF.non f4;have frG := frF.trans f4 (fun _ _ e => e);obtain ⟨gc, hgc⟩ := Aa w3.heap.size;rw [hgc.out] at bcd ⊢;generalize w3.alloc (.cells #[.int .i64 c.d, .int .i64 c.m, .int .u64 (c.l : Int), .int .u64 (c.k : Int), .int .u64 (c.s : Int)] 104) = w4 at *;have m0 : w4.cell? ⟨gc, 0, none⟩ = some (.int .i64 c.d) := bcd.cell 0;have m1 : w4.cell? ⟨gc, 1, none⟩ = some (.int .i64 c.m) := bcd.cell 1;have m2 : w4.cell? ⟨gc, 2, none⟩ = some (.int .u64 (c.l : Int)) := bcd.cell 2;have m3 : w4.cell? ⟨gc, 3, none⟩ = some (.int .u64 (c.k : Int)) := bcd.cell 3;have m4 : w4.cell? ⟨gc, 4, none⟩ = some (.int .u64 (c.s : Int)) := bcd.cell 4;have kv2 := lh (kv1.out w4 (OpL.frame hat frG));clear kv1 bcd baF bsF yoF frF f3 f4 hgc x0 kc2
        cases sb
        case false =>
          have hfin := lh (fun w' h => hbad.out 12 w' (by rw [hrest2.out, if_pos rfl]) (by decide) h);clear hrest2 hbad hP klk
          as_aux_lemma =>
          go_wp2_with (go_at_call 66; (with_reducible refine (kv2.out).mono ?_); rintro _ w5 ⟨rfl, f5⟩)
          go_ret
          exact hfin.out _ (frG.trans f5 (fun _ _ e => e))
        case true =>
          have hrest3 : Hid (An g.cards g.pns x.op = if x.op.kind = 1 /\ g.pns ≠ [] then 1
                else if x.op.past.any (fun id => (plc g.pns id).isNone) = true then 10
                else if clash g.pns x.op.past = true \/ x.op.at_ < late g.pns x.op.past then 6
                else if Bn g.pns (Aq g.pns x.op.past) x.op = true then 11
                else 0) := by show _ = _; rw [hrest2.out, if_neg (by decide)]
          clear hrest2;go_upto_region 15 with (go_at_call 66; (with_reducible refine (kv2.out).mono ?_); rintro _ w5 ⟨rfl, f5⟩)
          have frH := frG.trans f5 (fun _ _ e => e);have baH := baG.fr f5 (fun e => e);have bsH := bsG.fr f5 (fun e => e);have yoH := yoG.non f5;clear kv2 baG bsG yoG frG f5 m0 m1 m2 m3 m4;have c2' : w5.cell? ⟨g.gb, 2, none⟩ = some (.slice g.nA nn g.nC) := by rw [<- hnn.out]; exact (hg.fr frH).blk.cell 2
          have x2 : w5.cell? ⟨w.heap.size, 2, none⟩ = some (.int .i64 x.kind) := (baH.cell 2).trans e2.out;obtain ⟨kb, hkb⟩ := Aa (x.kind == 1 && decide ((0 : Int) < (nn : Int)));clear c2
          go_cut [6, 73] from 5 (fun n s wc => w5 = wc /\ n = .pointer (some ⟨gs, 0, none⟩) /\ s = .bool kb)
          case first =>
            clear hbad hP klk hrest3
            as_aux_lemma =>
            rcases Ay0 (x.kind == 1) with t1 | t1
            · have hv : Hid (decide ((0 : Int) < (nn : Int)) = kb) := by show _ = _; rw [<- hkb.out, t1]; rfl
              go_wp2_with fail;go_meet;exact ⟨rfl, rfl, congrArg Value.bool (by rw [<- hv.out]; exact decide_eq_decide.2 (by omega))⟩
            · have hv : Hid (false = kb) := by show _ = _; rw [<- hkb.out, t1]; rfl
              go_wp2_with fail;go_meet;exact ⟨rfl, rfl, hB hv⟩
          case rest =>
          obtain ⟨rfl, rfl, rfl⟩ := hcut
          cases kb
          case true =>
            have hfin := lh (fun w' h => hbad.out 1 w' (by
              have h1 := hkb.out;rw [Bool.and_eq_true, beq_iff_eq, decide_eq_true_iff] at h1;rw [hrest3.out, if_pos ⟨h1.1, fun e => by have h2 := hlen.out; rw [e] at h2; simp at h2; omega⟩]) (by decide) h)
            clear hrest3 hbad hP klk
            as_aux_lemma =>
            go_wp2_with fail
            go_ret
            exact hfin.out _ frH
          case false =>
            have hrest4 : Hid (An g.cards g.pns x.op = if x.op.past.any (fun id => (plc g.pns id).isNone) = true then 10
                else if clash g.pns x.op.past = true \/ x.op.at_ < late g.pns x.op.past then 6
                else if Bn g.pns (Aq g.pns x.op.past) x.op = true then 11
                else 0) := by
              show _ = _;have h1 := hkb.out;rw [Bool.and_eq_false_iff, beq_eq_false_iff_ne, decide_eq_false_iff_not] at h1
              rw [hrest3.out, if_neg (fun e => by
                rcases h1 with h1 | h1
                · exact h1 e.1
                · refine e.2 (List.eq_nil_of_length_eq_zero ?_)
                  rw [hlen.out];omega)]
            clear hrest3;have kl := lh (klk.out w5 frH);clear klk;have hany := lh (Ad4 g x.past);unfold Jt at kl;obtain ⟨m, hm⟩ := Aa (x.past.filter (fun id => !(Ak g.nodes id).isSome)).length;rw [hm.out] at kl hany
            by_cases hm0 : m = 0
            case neg =>
              have hb0 : decide (0 < m) = true := by rw [decide_eq_true_iff]; omega
              have hfin := lh (fun w' h => hbad.out 10 w' (by
                rw [hrest4.out, if_pos (by
                  rcases Ay0 (x.op.past.any (fun id => (plc g.pns id).isNone)) with e | e
                  · exact e
                  · exact absurd (hany.out.2 e) hm0)]) (by decide) h)
              clear hrest4 hbad hP hm0
              as_aux_lemma =>
              go_wp2_with (go_at_call 67; (with_reducible refine (kl.out).mono ?_); rintro _ w6 ⟨A6, c6, rfl, r6, f6⟩)
              go_ret
              exact hfin.out _ (frH.trans f6 (fun _ _ e => e))
            case pos =>
              have hb0 : decide (0 < m) = false := by rw [decide_eq_false_iff_not]; omega
              have hall : Hid (x.op.past.any (fun id => (plc g.pns id).isNone) = false) := by
                exact hany.out.1 hm0
              have hrest5 : Hid (An g.cards g.pns x.op = if clash g.pns x.op.past = true \/ x.op.at_ < late g.pns x.op.past then 6
                else if Bn g.pns (Aq g.pns x.op.past) x.op = true then 11
                else 0) := by
                show _ = _;rw [hrest4.out, if_neg (by rw [hall.out]; decide)]
              clear hrest4 hany hm0;go_upto_region 19 with (go_at_call 67; (with_reducible refine (kl.out).mono ?_); rintro _ w6 ⟨A6, c6, rfl, r6, f6⟩)
              rename_i K hK;have H : M8 w w6 base g x y gs := ⟨hg, hat, hok'.out, by rw [hCX.out]; exact baH.fr f6 (fun e => e), by rw [hname.out]; exact bsH.fr f6 (fun e => e), hgw, hyop'.out, yoH.non f6, frH.trans f6 (fun _ _ e => e), hEC.out, by rw [hnn.out]; exact hfew.out, hall.out, hnew.out, hrest5.out⟩;have hcx := hCX.out;subst hcx;try clear hg
              try clear hat
              try clear hi
              try clear hlx
              try clear hbad
              try clear hu64
              try clear hname
              try clear hplc
              try clear hidok
              try clear e0
              try clear e2
              try clear hCX
              try clear hok'
              try clear hEC
              try clear hui
              try clear hyop'
              try clear hall
              try clear hrest5
              try clear kl
              try clear hb
              try clear hb0
              try clear hfew
              try clear hlen
              try clear hnn
              try clear hnew
              try clear baH
              try clear bsH
              try clear yoH
              try clear frH
              try clear c2'
              try clear x2
              try clear r6
              try clear f6
              try clear hkb
              try clear hm
              try clear hrest4
              try clear hany
              try clear hm0
              try clear wF
              try clear w2
              try clear w3
              try clear w4
              try clear hnn
              try clear nn
              try clear ui
              try clear c
              try clear gc
              try clear hui
              try clear hbad
              try clear hP0
              revert H;revert hK;revert base g x w y gs K A6 c6 m w6;revert u5 u7 u8 u9 u10 u11 u12 u13 u14 u15 u16 u17 u18 u19 u20 u21 u22 u23 u24 u25 u26 u27 u28 u29 u30 u31 u32 u33 u34 u35 u36 u37 u38 u39 u40 u41 u42 u43 u44 u45 u46 u47 u48 u49 u50 u51 u52 u53 u54 u55 u56 u57 u58 u59 u60 u61 u62 u63 u64 u65 u66 u67 u68 u69 u70 u71 u72 u79 u80 u81 u82 u83 u84 u85 u86 u87 u88 u89 u90 u91 u92 u93 u94 u95 u96 u97 u98 u99 u100 u101 u102 u103 u104 u105 u106 u107 u108 u109 u110 u111 u112 u113 u114 u115 u116 u117 u118 u119 u120 u121 u122 u123 u124 u125 u126 u127 u128 u129 u130 u131 u132 u133 u134 u135 u136 u137 u138 u139 u140 u141 u142 u143 u144 u145 u146 u147 u148 u149 u150 u151 u152 u153 u154 u155 u156 u157 u158 u159 u160 u161 u162 u163 u164 u165 u166 u167 u168 u169 u170 u171 u172 u173 u174 u175 u176 u177 u178 u179 u180 u181 u182 u183 u184 u185 u186 u187 u188 u189 u190 u191 u192 u193 u194 u195 u196 u197 u198 u199 u200 u201 u202 u203 u204 u205 u206 u207 u208 u209 u210 u211 u212 u213 u214 u215 u216 u217 u218 u219 u220 u221 u222 u223 u224 u225 u226 u227 u228 u229 u230 u231 u232 u233;exact hP.down)
end Oq
section
open Go.RowKit Go.Sort
namespace Oq
theorem Picked.from {g:Gph} {p:Nat->Bool} {w0 w:World} {e:Ending} {w':World} (h:Picked g p w e w') (hf:Fr Non w0 w):Picked g p w0 e w':=by
 obtain ⟨A,c,ids,h1,h2,h3,h4,h5⟩:=h;exact ⟨A,c,ids,h1,h2,h3,h4.lower hf.size,hf.trans h5 zr⟩
end Oq
end
section
open Go.RowKit Go.Sort Go.Shelf
namespace Oq
instance:Inhabited Id:=⟨⟨0,0,0⟩⟩
theorem Ad5 {w:World} {base n c:Nat} {t:TypeId} {g:Nat} {l:List Value} {size:Nat} (h:Own w base t size (some ⟨g,0,none⟩) n c l) (hn:0<n):
  ∃cur,Blk w g t cur/\cur.toList.take (n*size)=l/\n*size<=cur.size:=by
 rcases h.2 with ⟨_,h0⟩|⟨g',cap,cur,hv,hb,hg,h1,h2,h3,h4⟩
 · omega
 ·
  injection hv with hA hn' hc
  injection hA with hA
  injection hA with hA
  subst hA;refine ⟨cur,hg,h4,?_⟩;have h5:=congrArg List.length h4;rw [List.length_take,Array.length_toList,h.1] at h5;omega
theorem Ad6 {w:World} {t:TypeId} {g n:Nat} {cur:Array Value} {d:Array Value} {os:Array Obj} (h:Blk w g t cur):
  Blk (grow (putRow id (Sort.ahead w n) g 0 d) os) g t (putCells id 0 d cur):=by
 have hlt:=h.lt;unfold Blk at*;unfold grow putRow mapBlock Sort.ahead;simp only;rw [Ay1 (by simpa using hlt),Ay2,if_pos rfl,h];rfl
theorem Ad7 (w:World) (g n:Nat) (d:Array Value) (os:Array Obj):Fr (One g) w (grow (putRow id (Sort.ahead w n) g 0 d) os):=by
 refine ⟨rfl,rfl,rfl,?_,?_⟩
 · simp [grow,putRow,mapBlock,Sort.ahead]
 ·
  intro k hk hne;unfold grow putRow mapBlock Sort.ahead;simp only;rw [Ay1 (by simpa using hk),Ay2,if_neg (fun e=>hne e.symm)]
theorem Ad8 {d cur:Array Value} {l:List Value} (hd:d.size=l.length) (hl:∀j,j<l.length->l[j]? =some d[j]!) (hs:l.length<=cur.size):(putCells id 0 d cur).toList.take l.length=l:=by
 apply List.ext_getElem?;intro j
 by_cases hj:j<l.length
 ·
  rw [List.getElem?_take_of_lt hj,hl j hj];have hc:j<cur.size:=by omega
  have hjd:j<d.size:=by omega
  simp [putCells,hc,hjd]
 · rw [List.getElem?_take_eq_none (by omega),List.getElem?_eq_none (by omega)]
end Oq
end
end Go.Proofs.YtihfebhfgliojaaGreatDoor
namespace Go.Proofs
open Go.Shelf Go.RowKit Go.Lib Go.Sort
def Tryz.sortIdents_ren:Go.Shelf.Ren:=⟨fun|6=>82|15=>134|14=>136|28=>196|29=>197|20=>198|21=>199|22=>200|23=>201|24=>202|25=>203|26=>204|27=>205|46=>234|47=>230|48=>231|49=>235|50=>236|57=>246|n=>n,fun|22=>28|24=>38|25=>134|3=>3|39=>179|0=>0|53=>233|55=>23|4=>4|46=>227|45=>226|50=>115|5=>5|9=>9|66=>252|70=>255|76=>267|77=>268|n=>n,fun|n=>n⟩
theorem Tryz.sortIdents:Go.Proofs.SlLaysF0.n6 zp Tryz.sortIdents_ren:={
  mixed:=by kernel_rfl
  f6:=⟨Tryz.f82.name,by decide,Tryz.func82.trans (congrArg some (by kernel_rfl))⟩
  f14:=⟨Tryz.f136.name,by decide,Tryz.func136.trans (congrArg some (by kernel_rfl))⟩
  f15:=Tryz.func134.trans (congrArg some (by kernel_rfl))
  f20:=⟨Tryz.f198.name,by decide,Tryz.func198.trans (congrArg some (by kernel_rfl))⟩
  f21:=⟨Tryz.f199.name,by decide,Tryz.func199.trans (congrArg some (by kernel_rfl))⟩
  f22:=⟨Tryz.f200.name,by decide,Tryz.func200.trans (congrArg some (by kernel_rfl))⟩
  f23:=⟨Tryz.f201.name,by decide,Tryz.func201.trans (congrArg some (by kernel_rfl))⟩
  f24:=⟨Tryz.f202.name,by decide,Tryz.func202.trans (congrArg some (by kernel_rfl))⟩
  f25:=⟨Tryz.f203.name,by decide,Tryz.func203.trans (congrArg some (by kernel_rfl))⟩
  f26:=⟨Tryz.f204.name,by decide,Tryz.func204.trans (congrArg some (by kernel_rfl))⟩
  f27:=⟨Tryz.f205.name,by decide,Tryz.func205.trans (congrArg some (by kernel_rfl))⟩
  f28:=Tryz.func196.trans (congrArg some (by kernel_rfl))
  f29:=Tryz.func197.trans (congrArg some (by kernel_rfl))
  f46:=⟨Tryz.f234.name,by decide,Tryz.func234.trans (congrArg some (by kernel_rfl))⟩
  f47:=Tryz.func230.trans (congrArg some (by kernel_rfl))
  f48:=Tryz.func231.trans (congrArg some (by kernel_rfl))
  f49:=⟨Tryz.f235.name,by decide,Tryz.func235.trans (congrArg some (by kernel_rfl))⟩
  f50:=⟨Tryz.f236.name,by decide,Tryz.func236.trans (congrArg some (by kernel_rfl))⟩
  f57:=⟨Tryz.f246.name,by decide,Tryz.func246.trans (congrArg some (by kernel_rfl))⟩
  t0:=underlying0
  a0:=isAgg0
  z0:=sizeOf0
  v0:=zeroValue0
  t3:=underlying3
  a3:=isAgg3
  z3:=sizeOf3
  v3:=zeroValue3
  t4:=underlying4
  a4:=isAgg4
  z4:=sizeOf4
  v4:=zeroValue4
  t5:=underlying5
  a5:=isAgg5
  z5:=sizeOf5
  v5:=zeroValue5
  t9:=underlying9
  a9:=isAgg9
  z9:=sizeOf9
  v9:=zeroValue9
  t22:=underlying28
  a22:=isAgg28
  z22:=sizeOf28
  v22:=zeroValue28
  t25:=underlying134
  a25:=isAgg134
  z25:=sizeOf134
  v25:=zeroValue134
  t39:=underlying179
  a39:=isAgg179
  z39:=sizeOf179
  v39:=zeroValue179
  t45:=underlying226
  a45:=isAgg226
  z45:=sizeOf226
  v45:=zeroValue226
  t46:=underlying227
  a46:=isAgg227
  z46:=sizeOf227
  v46:=zeroValue227
  t50:=underlying115
  a50:=isAgg115
  z50:=sizeOf115
  v50:=zeroValue115
  t53:=underlying233
  a53:=isAgg233
  z53:=sizeOf233
  v53:=zeroValue233
  t55:=underlying23
  a55:=isAgg23
  z55:=sizeOf23
  v55:=zeroValue23
  t66:=underlying252
  a66:=isAgg252
  z66:=sizeOf252
  v66:=zeroValue252
  t70:=underlying255
  a70:=isAgg255
  z70:=sizeOf255
  v70:=zeroValue255
  t76:=underlying267
  a76:=isAgg267
  z76:=sizeOf267
  v76:=zeroValue267
  t77:=underlying268
  a77:=isAgg268
  z77:=sizeOf268
  v77:=zeroValue268}
end Go.Proofs
namespace Go.Proofs.YtihfebhfgliojaaGreatDoor
open Go.RowKit
attribute [local go_sem ↓] Go.wp_at_zero Go.wp_at_succ
section
open Go.RowKit Go.Sort Go.Shelf
namespace Oq
end Oq
end
section
open Go.RowKit Go.Sort
namespace Oq
attribute [local go_sem] Ax3 Ax4
theorem Ad9 {w:World} {g:Nat} {t:TypeId} {ws:List Nat} (h:Blk w g t (ws.map Uv).toArray) (hl:ws.length=4):Gc w g 0 ws:=fun j hj=>by
 rw [h.cell,Ax5,List.getElem?_toArray,Ay3,Ax8 (by omega)];simp [Uv,List.getD,Ax8 (show j<ws.length by omega)]
theorem Ae0 {w:World} {g k i v:Nat} {t:TypeId} {ws:List Nat} (h:Blk w g t (ws.map Uv).toArray):Blk ((w.drewN k).setCell ⟨g,i,none⟩ (.int .u64 (v:Int))) g t ((ws.set i v).map Uv).toArray:=by
 have h1:=(h.drewN k).set i (.int .u64 (v:Int));rw [List.map_set];have e:(ws.map Uv).toArray.setIfInBounds i (.int .u64 (v:Int))=((ws.map Uv).set i (Uv v)).toArray:=by simp [Uv]
 rw [<- e];exact h1
end Oq
end
namespace Oq
attribute [local go_sem] Ax3 Ax4
structure LSt (w wr:World) (x y:OpL) (gs pb:Nat) (PW:List Nat) (a0 a1 a2 a3 lv:Nat):Prop where
 bx:Blk wr w.heap.size 44 x.cells
 bn:Blk wr gs 114 (⟨y,x.op.name,0,0,0,0,lv⟩:Ai).cells.toArray
 bp:Blk wr pb 112 (PW.map Uv).toArray
 ba:Blk wr (pb+1) 112 #[.int .u64 (a0:Int),.int .u64 (a1:Int),.int .u64 (a2:Int),.int .u64 (a3:Int)]
 yown:y.own wr w.heap.size
 fr:Fr Non w wr
 lo1:w.heap.size<gs
 lo2:gs<pb
section
variable {w wr w' : World} {x y : OpL} {gs pb : Nat} {PW : List Nat} {a0 a1 a2 a3 lv : Nat}
theorem LSt.non (L:LSt w wr x y gs pb PW a0 a1 a2 a3 lv) (hf:Fr Non wr w'):LSt w w' x y gs pb PW a0 a1 a2 a3 lv:=
 ⟨L.bx.fr hf zq,L.bn.fr hf zq,L.bp.fr hf zq,L.ba.fr hf zq,L.yown.non hf,L.fr.trans hf zr,L.lo1,L.lo2⟩
theorem LSt.par (L:LSt w wr x y gs pb PW a0 a1 a2 a3 lv) {PW':List Nat} (hf:Fr (One pb) wr w') (hb:Blk w' pb 112 (PW'.map Uv).toArray):LSt w w' x y gs pb PW' a0 a1 a2 a3 lv:=by
 have h1:=L.lo1;have h2:=L.lo2;exact ⟨L.bx.fr hf (by unfold One;omega),L.bn.fr hf (by unfold One;omega),hb,L.ba.fr hf (by unfold One;omega),L.yown.keepP hf (Types.one L.bp) (by decide) (by decide) (by decide) (by decide) (by decide) (by decide) (by decide),L.fr.trans hf (fun k hk e=>by have e':k=pb:=e;omega),h1,h2⟩
theorem LSt.abv (L:LSt w wr x y gs pb PW a0 a1 a2 a3 lv) {b0 b1 b2 b3:Nat} (hf:Fr (One (pb+1)) wr w') (hb:Blk w' (pb+1) 112 #[.int .u64 (b0:Int),.int .u64 (b1:Int),.int .u64 (b2:Int),.int .u64 (b3:Int)]):LSt w w' x y gs pb PW b0 b1 b2 b3 lv:=by
 have h1:=L.lo1;have h2:=L.lo2;exact ⟨L.bx.fr hf (by unfold One;omega),L.bn.fr hf (by unfold One;omega),L.bp.fr hf (by unfold One;omega),hb,L.yown.keepP hf (Types.one L.ba) (by decide) (by decide) (by decide) (by decide) (by decide) (by decide) (by decide),L.fr.trans hf (fun k hk e=>by have e':k=pb+1:=e;omega),h1,h2⟩
theorem LSt.lev (L:LSt w wr x y gs pb PW a0 a1 a2 a3 lv) (lv':Nat):LSt w (wr.setCell ⟨gs,34,none⟩ (.int .i64 (lv':Int))) x y gs pb PW a0 a1 a2 a3 lv':=by
 have h1:=L.lo1;have h2:=L.lo2;have hf:=(Fr.refl (One gs) wr).setOne 34 (.int .i64 (lv':Int));exact ⟨L.bx.fr hf (by unfold One;omega),L.bn.set 34 _,L.bp.fr hf (by unfold One;omega),L.ba.fr hf (by unfold One;omega),L.yown.keepP hf (Types.one L.bn) (by decide) (by decide) (by decide) (by decide) (by decide) (by decide) (by decide),L.fr.trans hf (fun k hk e=>by have e':k=gs:=e;omega),h1,h2⟩
end
structure CSt (w wr:World) (base:Nat) (g:Gph) (x y:OpL) (gs pb:Nat) (PW:List Nat) (a0 a1 a2 a3 lv:Nat) (lt:Int) (wa:World):Prop where
 A:M8 w wa base g x y gs
 L:LSt w wr x y gs pb PW a0 a1 a2 a3 lv
 par:Bj PW (C9 g.pns x.op.past)
 abv:Bj [a0,a1,a2,a3] (Bd g.pns x.op.past)
 hlt:lt=late g.pns x.op.past
 hlv:lv=lvl g.pns x.op.past
def addC:PSigma (fun P:Prop=>PLift P->addB.1):=PSigma.mk _ (by
 intro hP;conv=>whnf
 intro t5 t7 t8 t9 t10 t11 t12 t13 t14 t15 t16 t17 t18 t19 t20 t21 t22 t23 t24 t25 t26 t27 t28 t29 t30 t31 t32 t33 t34 t35 t36 t37 t38 t39 t40 t41 t42 t43 t44 t45 t46 t47 t48 t49 t50 t51 t52 t53 t54 t55 t56 t57 t58 t59 t60 t61 t62 t63 t64 t65 t66 t67 t68 t69 t70 t71 t72 t79 t80 t81 t82 t83 t84 t85 t86 t87 t88 t89 t90 t91 t92 t93 t94 t95 t96 t97 t98 t99 t100 t101 t102 t103 t104 t105 t106 t107 t108 t109 t110 t111 t112 t113 t114 t115 t116 t117 t118 t119 t120 t121 t122 t123 t124 t125 t126 t127 t128 t129 t130 t131 t132 t133 t134 t135 t136 t137 t138 t139 t140 t141 t142 t143 t144 t145 t146 t147 t148 t149 t150 t151 t152 t153 t154 t155 t156 t157 t158 t159 t160 t161 t162 t163 t164 t165 t166 t167 t168 t169 t170 t171 t172 t173 t174 t175 t176 t177 t178 t179 t180 t181 t182 t183 t184 t185 t186 t187 t188 t189 t190 t191 t192 t193 t194 t195 t196 t197 t198 t199 t200 t201 t202 t203 t204 t205 t206 t207 t208 t209 t210 t211 t212 t213 t214 t215 t216 t217 t218 t219 t220 t221 t222 t223 t224 t225 t226 t227 t228 t229 t230 t231 t232 t233 base g x w y gs hgw lpast m w6 A6 c6 K hK H;have hg:=H.hg;have hok:=H.hok;have hat:=H.hat;have hlen:=hg.few;have hall:=lh H.all;have hH:=lh H;have hpo:x.op.past=x.past:=rfl;obtain ⟨n,hn⟩:=Aa x.past.length;have hnm:n<=1000:=by have h:=hok.past.1;rw [show x.op.past=x.past from rfl,hn.out] at h;exact h
 have L0:LSt w ((w6.alloc (.cells #[.int .u64 0,.int .u64 0,.int .u64 0,.int .u64 0] 112)).alloc (.cells #[.int .u64 0,.int .u64 0,.int .u64 0,.int .u64 0] 112)) x y gs w6.heap.size [0,0,0,0] 0 0 0 0 1:=by
  have f1:Fr Non w6 ((w6.alloc (.cells #[.int .u64 0,.int .u64 0,.int .u64 0,.int .u64 0] 112)).alloc (.cells #[.int .u64 0,.int .u64 0,.int .u64 0,.int .u64 0] 112)):=((Fr.refl Non w6).alloc _).alloc _;have b2:=Blk.new (w6.alloc (.cells #[.int .u64 0,.int .u64 0,.int .u64 0,.int .u64 0] 112)) 112 #[.int .u64 0,.int .u64 0,.int .u64 0,.int .u64 0];rw [World.size_alloc] at b2;exact ⟨H.bx.fr f1 zq,H.bn.fr f1 zq,(Blk.new w6 112 #[.int .u64 0,.int .u64 0,.int .u64 0,.int .u64 0]).alloc _,b2,H.yown.non f1,H.fr.trans f1 zr,hgw,H.bn.lt⟩
 obtain ⟨CX,av⟩:=Aa x.cells;have e4:Hid (CX[4]? =some (.slice x.pastA n x.pastC)):=by show _=_;rw [<- av.out,<- hn.out];rfl
 have x4:((w6.alloc (.cells #[.int .u64 0,.int .u64 0,.int .u64 0,.int .u64 0] 112)).alloc (.cells #[.int .u64 0,.int .u64 0,.int .u64 0,.int .u64 0] 112)).cell? ⟨w.heap.size,4,none⟩=some (.slice x.pastA n x.pastC):=by
  have h:=L0.bx.cell 4;rw [av.out,e4.out] at h;exact h
 rw [av.out];clear hpo H;go_upto_region 20 with (fail)
 generalize (w6.alloc (.cells #[.int .u64 0,.int .u64 0,.int .u64 0,.int .u64 0] 112)).alloc (.cells #[.int .u64 0,.int .u64 0,.int .u64 0,.int .u64 0] 112)=w7 at*;obtain ⟨pb,bw⟩:=Aa w6.heap.size;rw [bw.out] at L0 ⊢;go_wp2_with fail
 go_loopw [13,82] (fun tv v wr=>∃(k:Nat) (PW:List Nat) (a0 a1 a2 a3 lv:Nat) (lt:Int),tv=.int .i64 lt/\v=.int .i64 (k:Int)/\k<=n/\Hid (Bj PW (C9 g.pns (x.past.take k)))/\Hid (Bj [a0,a1,a2,a3] (Bd g.pns (x.past.take k)))/\Hid (lt=late g.pns (x.past.take k))/\Hid (lv=lvl g.pns (x.past.take k))/\Hid (LSt w wr x y gs pb PW a0 a1 a2 a3 lv)) (fun _ v _=>n-(intOf v).toNat)
 case atStart=>exact ⟨0,[0,0,0,0],0,0,0,0,1,0,rfl,rfl,by omega,Bj.empty,Bj.empty,rfl,rfl,L0⟩
 case round=>
  obtain ⟨k,PW,a0,a1,a2,a3,lv,lt,rfl,rfl,hk,al,ap,a6,aw,hL⟩:=hrel
  by_cases hkn:k<n
  ·
   clear hP L0 x4
   as_aux_lemma=>
   have L:=hL.out;obtain ⟨i1,i2,i3⟩:=ix k n
   obtain ⟨id,hid⟩:∃z,x.past[k]? =some z:=⟨_,Ax8 (by rw [hn.out];exact hkn)⟩;have ay:id.ok:=hok.past.2 id (Ax6 hid)
   obtain ⟨i,aq⟩:∃i,plc g.pns id=some i:=by
    have h1:=hall.out;rw [Ax9] at h1;have h2:=h1 id (Ax6 hid)
    cases h3:plc g.pns id with
    |none=>rw [h3] at h2;exact absurd rfl h2
    |some i=>exact ⟨i,rfl⟩
   have ak:Ak g.nodes id=some i:=by rw [<- aq];exact (Gf g.nodes id).symm
   obtain ⟨nd,ar,_⟩:=Iy ak;have b0:i<g.nodes.length:=(List.getElem?_eq_some_iff.1 ar).1;have aj:i<256:=by omega
   have bb:g.pns[i]? =some nd.pn:=by unfold Gph.pns;rw [Ay3,ar];rfl
   have af:Hid (Bj [nd.a0,nd.a1,nd.a2,nd.a3] nd.past):=(hg.node nd (Ax6 ar)).set;have bt:=hg.levs nd (Ax6 ar)
   have ag:Hid (C9 g.pns (x.past.take (k+1))=fun q=>q==i||C9 g.pns (x.past.take k) q):=by
    show _=_;rw [Xz g.pns x.past k hid,aq];funext q;congr 1
    by_cases h:q=i
    · subst h;simp
    ·
     have h':¬i=q:=fun e=>h e.symm;simp only [beq_eq_false_iff_ne.2 h];exact beq_eq_false_iff_ne.2 (fun e=>h' (Option.some.inj e))
   have ai:Hid (Bd g.pns (x.past.take (k+1))=fun q=>Bd g.pns (x.past.take k) q||nd.past q):=by
    show _=_;rw [Qp g.pns x.past k hid];funext q;unfold upB;rw [aq];simp only [bb];rfl
   have az:Hid (late g.pns (x.past.take (k+1))=max (late g.pns (x.past.take k)) nd.x.at_):=by
    show _=_;rw [Qq g.pns x.past k hid];unfold Cf;rw [aq];simp only [bb];rfl
   have a4:Hid (lvl g.pns (x.past.take (k+1))=max (lvl g.pns (x.past.take k)) (nd.lev+1)):=by
    show _=_;rw [Qr g.pns x.past k hid];unfold Aj;rw [aq];simp only [bb];rfl
   obtain ⟨b,ca,hA,b8,d0,d1,d2⟩:=Id.at (hat.past.1.fr L.fr zr) hid;obtain ⟨bn,aa,be,b3,ah⟩:=hg.cell ar
   have au:∀w',MapAt w' g.mb g.mm (Ak g.nodes)->(Instr.lookup 116 (.map (some g.mb)) (.agg id.V) false).run zp w'=.ok (.int .i64 (i:Int)) w':=fun w' h=>by
    have h1:=MapAt.look1 h id ay;rw [ak] at h1;exact h1
   have ab:Hid (∀wv,Fr Non w wv->wv.cell? ⟨g.gb,1,none⟩=some (.map (some g.mb))/\wv.cell? ⟨g.gb,2,none⟩=some (.slice (some ⟨bn,aa,none⟩) g.nodes.length g.nC)/\MapAt wv g.mb g.mm (Ak g.nodes)/\
     wv.cell? ⟨bn,aa+i*35+3,none⟩=some (.int .i64 nd.x.at_)/\wv.cell? ⟨bn,aa+i*35+34,none⟩=some (.int .i64 (nd.lev:Int))/\
     wv.cell? ⟨bn,aa+i*35+30,none⟩=some (.int .u64 (nd.a0:Int))/\wv.cell? ⟨bn,aa+i*35+30+1,none⟩=some (.int .u64 (nd.a1:Int))/\wv.cell? ⟨bn,aa+i*35+30+2,none⟩=some (.int .u64 (nd.a2:Int))/\wv.cell? ⟨bn,aa+i*35+30+3,none⟩=some (.int .u64 (nd.a3:Int))):=by
    intro wv hf;have bf:=hg.fr hf;have hc:∀j,j<35->∀u,nd.cells[j]? =some u->wv.cell? ⟨bn,aa+i*35+j,none⟩=some u:=fun j hj u hu=>hf.cell (ah j hj u hu) zq;refine ⟨bf.blk.cell 1,?_,bf.map,hc 3 (by omega) _ rfl,hc 34 (by omega) _ rfl,hc 30 (by omega) _ rfl,hc 31 (by omega) _ rfl,hc 32 (by omega) _ rfl,hc 33 (by omega) _ rfl⟩;rw [<- be];exact bf.blk.cell 2
   have b5:g.gb<w.heap.size:=hg.blk.lt;have b1:g.mb<w.heap.size:=hg.map.lt;have L1:=L.non ((Fr.refl Non wr).alloc (.cells id.V 38));have ax:=Blk.new wr 38 id.V;have bg:pb<wr.heap.size:=L.bp.lt;rw [hA];replace hA:=lh hA;replace be:=lh be;obtain ⟨j1,j2,j3⟩:=ix i g.nodes.length
   have j4:=iw (i:Int);clear hid aq ak ar bb ah hall L b8 hg hat hok b0;go_upto_region 24 with (fail)
   obtain ⟨ib,b6⟩:=Aa wr.heap.size;rw [b6.out] at ax bg ⊢;generalize wr.alloc (.cells id.V 38)=w1 at*;have i4:w1.cell? ⟨ib,0,none⟩=some (.int .i64 id.b):=ax.cell 0;have i5:w1.cell? ⟨ib,1,none⟩=some (.int .i64 id.s):=ax.cell 1;have i6:w1.cell? ⟨ib,2,none⟩=some (.int .u64 (id.u:Int)):=ax.cell 2;obtain ⟨c1,c2,ac,-⟩:=ab.out w1 L1.fr;generalize g.nodes.length=nn at*;refine wp_region_held_drew (S:=(fun w'=>w'.cell? ⟨ib,0,none⟩=some (.int .i64 id.b)/\w'.cell? ⟨ib,1,none⟩=some (.int .i64 id.s)/\w'.cell? ⟨ib,2,none⟩=some (.int .u64 (id.u:Int))/\w'.cell? ⟨g.gb,1,none⟩=some (.map (some g.mb))/\w'.cell? ⟨g.gb,2,none⟩=some (.slice (some ⟨bn,aa,none⟩) nn g.nC)/\MapAt w' g.mb g.mm (Ak g.nodes))) (by kernel_rfl) ⟨i4,i5,i6,c1,c2,ac⟩ (fun hS=> ?_);refine tkH 0 hS (h:=tkH 1 hS (h:=tkH 2 hS (h:=tkH 3 hS (h:=tkH 4 hS (h:=tkH 5 hS (h:=tkH 6 hS (h:=tkH 7 hS (h:=tkH 8 hS (h:=tkH 9 hS (h:=tkH 10 hS (h:=tkH 11 hS (h:=?_))))))))))));simp only [zl];refine oD ?_;go_simp;clear hS c2;have L2:=L1.non ((Fr.refl Non w1).drew);replace i4:w1.drew.cell? ⟨ib,0,none⟩=some (.int .i64 id.b):=i4;replace i5:w1.drew.cell? ⟨ib,1,none⟩=some (.int .i64 id.s):=i5;replace i6:w1.drew.cell? ⟨ib,2,none⟩=some (.int .u64 (id.u:Int)):=i6;replace c1:w1.drew.cell? ⟨g.gb,1,none⟩=some (.map (some g.mb)):=c1;replace ac:MapAt w1.drew g.mb g.mm (Ak g.nodes):=ac;clear L1 ax;go_upto_region 25 with (fail)
   generalize w1.drew=w2 at*;refine wp_region_held_drew (S:=(fun w'=>w'.cell? ⟨ib,0,none⟩=some (.int .i64 id.b)/\w'.cell? ⟨ib,1,none⟩=some (.int .i64 id.s)/\w'.cell? ⟨ib,2,none⟩=some (.int .u64 (id.u:Int))/\w'.cell? ⟨g.gb,1,none⟩=some (.map (some g.mb))/\MapAt w' g.mb g.mm (Ak g.nodes))) (by kernel_rfl) ⟨i4,i5,i6,c1,ac⟩ (fun hS=> ?_);refine tkH 0 hS (h:=tkH 1 hS (h:=tkH 2 hS (h:=tkH 3 hS (h:=tkH 4 hS (h:=tkH 5 hS (h:=?_))))));simp only [zl];have L3:=L2.non ((Fr.refl Non w2).drew);have ae:w2.drew.cell? ⟨ib,0,none⟩=some (.int .i64 id.b)/\w2.drew.cell? ⟨ib,1,none⟩=some (.int .i64 id.s)/\w2.drew.cell? ⟨ib,2,none⟩=some (.int .u64 (id.u:Int)):=⟨i4,i5,i6⟩;clear L2 hS i4 i5 i6 c1 ac;obtain ⟨w3,bm⟩:=Aa w2.drew;rw [bm.out] at L3 ae ⊢;have ad:=Ad9 L3.bp al.out.len;have bq:∀j,j<4->w3.frozen? ⟨pb,0+j,none⟩=false:=fun j _=>L3.bp.frozen _;have kp:=lh (V8 pb 0 PW (C9 g.pns (x.past.take k)) i w3 al.out ad bq aj)
   have bo:Hid (∀qq,LSt w ((w3.drewN qq).setCell ⟨pb,0+i/64,none⟩ (.int .u64 ((PW.getD (i/64) 0|||2^(i%64):Nat):Int))) x y gs pb (PW.set (i/64) (PW.getD (i/64) 0|||2^(i%64))) a0 a1 a2 a3 lv/\Fr (One pb) w3 ((w3.drewN qq).setCell ⟨pb,0+i/64,none⟩ (.int .u64 ((PW.getD (i/64) 0|||2^(i%64):Nat):Int)))):=by
    intro qq;have hf:Fr (One pb) w3 ((w3.drewN qq).setCell ⟨pb,0+i/64,none⟩ (.int .u64 ((PW.getD (i/64) 0|||2^(i%64):Nat):Int))):=((Fr.refl (One pb) w3).drewN qq).setCell (p:=⟨pb,0+i/64,none⟩) (fun _=>rfl) _;exact ⟨L3.par hf (by rw [Ax5];exact Ae0 L3.bp),hf⟩
   have a5:Hid (Bj (PW.set (i/64) (PW.getD (i/64) 0|||2^(i%64))) (C9 g.pns (x.past.take (k+1)))):=by
    show Bj _ _;rw [ag.out];exact Bj.put al.out aj
   generalize PW.set (i/64) (PW.getD (i/64) 0|||2^(i%64))=PW2 at*;generalize PW.getD (i/64) 0|||2^(i%64)=nv at*;clear ad bq L3 al ag hL;refine oG 6 (fun K hK=> ?_);go_simp;go_wp2_with (go_at_call 68;(with_reducible refine (kp.out).mono ?_);rintro _ w4 ⟨rfl,qq,bs⟩;have bu:=bo.out qq;rw [<- bs] at bu;clear bs bo);obtain ⟨L4,bc⟩:=bu;refine hK.out _ _ ⟨bc.cell ae.1 (by show ¬ib=pb;omega),bc.cell ae.2.1 (by show ¬ib=pb;omega),bc.cell ae.2.2 (by show ¬ib=pb;omega),(ab.out w4 L4.fr).1,(ab.out w4 L4.fr).2.2.1⟩ (fun hZ=> ?_);clear hZ hK K kp bc ae bm w3;try simp only [Ac,zl]
   refine oD ?_;go_simp;clear au;obtain ⟨-,-,-,-,-,m0,m1,m2,m3⟩:=ab.out w4 L4.fr
   have ad:Gc w4 (pb+1) 0 [a0,a1,a2,a3]:=fun j hj=>by
    rw [L4.ba.cell]
    match j,hj with
    |0,_=>rfl
    |1,_=>rfl
    |2,_=>rfl
    |3,_=>rfl
   have kw:=lh (Pd (pb+1) 0 112 #[.int .u64 (a0:Int),.int .u64 (a1:Int),.int .u64 (a2:Int),.int .u64 (a3:Int)] [a0,a1,a2,a3] nd.a0 nd.a1 nd.a2 nd.a3 (Bd g.pns (x.past.take k)) nd.past w4 ap.out af.out L4.ba ad)
   have a9:Hid (Bj [a0|||nd.a0,a1|||nd.a1,a2|||nd.a2,a3|||nd.a3] (Bd g.pns (x.past.take (k+1)))):=by
    show Bj _ _;rw [ai.out];exact Bj.or ap.out af.out
   have bv:Hid (∀w5,Blk w5 (pb+1) 112 (Iw #[.int .u64 (a0:Int),.int .u64 (a1:Int),.int .u64 (a2:Int),.int .u64 (a3:Int)] 0 (orW [a0,a1,a2,a3] [nd.a0,nd.a1,nd.a2,nd.a3]))->Fr (One (pb+1)) w4 w5->LSt w w5 x y gs pb PW2 (a0|||nd.a0) (a1|||nd.a1) (a2|||nd.a2) (a3|||nd.a3) lv):=fun w5 hb hf=>L4.abv hf hb;clear ad ap af L4 ai;go_upto_region 27 with (go_at_call 69;go_loud (with_reducible refine (kw.out).mono ?_);rintro _ w5 ⟨rfl,br,bz⟩;have L5:=bv.out w5 br bz;clear br bz bv kw m0 m1 m2 m3)
   obtain ⟨-,-,-,q3,bl,-,-,-,-⟩:=ab.out w5 L5.fr;obtain ⟨bj,a7⟩:=Aa (max lt nd.x.at_)
   have bh:Hid (bj=late g.pns (x.past.take (k+1))):=by
    show _=_;rw [az.out,<- a7.out,<- a6.out]
   clear az a6;go_upto_region 28 with (fail)
   clear q3;have s1:w5.cell? ⟨gs,34,none⟩=some (.int .i64 (lv:Int)):=L5.bn.cell 34;have a8:=iw ((nd.lev:Int)+1);obtain ⟨bd,ao⟩:=Aa (max lv (nd.lev+1))
   have bi:Hid (bd=lvl g.pns (x.past.take (k+1))):=by
    show _=_;rw [a4.out,<- ao.out,<- aw.out]
   have bk:Hid (max (lv:Int) ((nd.lev:Int)+1)=(bd:Int)):=by
    show _=_;rw [<- ao.out];omega
   clear a4 aw ao;refine Cr (S:=(fun w'=>w'.cell? ⟨gs,34,none⟩=some (.int .i64 (lv:Int))/\w'.cell? ⟨bn,aa+i*35+34,none⟩=some (.int .i64 (nd.lev:Int)))) 9 (by kernel_rfl) ?_;have hS:(fun w'=>w'.cell? ⟨gs,34,none⟩=some (.int .i64 (lv:Int))/\w'.cell? ⟨bn,aa+i*35+34,none⟩=some (.int .i64 (nd.lev:Int))) w5.drew:=⟨s1,bl⟩;have L6:=L5.non ((Fr.refl Non w5).drew);obtain ⟨w6,b9⟩:=Aa w5.drew;rw [b9.out] at hS L6 ⊢;refine tkG 0 hS (h:=tkG 1 hS (h:=tkG 2 hS (h:=tkG 3 hS (h:=tkG 4 hS (h:=tkG 5 hS (h:=tkG 6 hS (h:=tkG 7 hS (h:=tkG 8 hS (h:=?_)))))))));simp only [zl];have b4:w6.frozen? ⟨gs,34,none⟩=false:=L6.bn.frozen 34;replace s1:w6.cell? ⟨gs,34,none⟩=some (.int .i64 (lv:Int)):=hS.1;clear hS L5 bl;refine Ck (by kernel_rfl) ?_;refine oG 9 (fun K hK=> ?_);go_simp;refine hK.out _ _ trivial (fun hZ=> ?_);clear hZ hK K;try simp only [Ah,zl]
   refine oD ?_;go_simp;have L7:=L6.lev bd;rw [<- bk.out] at L7;clear L6 b4 s1 a8 bk;go_wp2_with fail;go_roundw
   case rel=>exact ⟨k+1,PW2,a0|||nd.a0,a1|||nd.a1,a2|||nd.a2,a3|||nd.a3,bd,bj,congrArg _ a7.out,by go_num,by omega,a5,a9,bh,bi,L7⟩
   case measure=>simp [intOf];omega
  ·
   obtain rfl:n=k:=by omega
   have ht:x.past.take n=x.op.past:=List.take_of_length_le (by rw [hn.out];exact Nat.le_refl _);rw [ht] at al ap a6 aw;have C:CSt w wr base g x y gs pb PW a0 a1 a2 a3 lv lt w6:=⟨hH.out,hL.out,al.out,ap.out,a6.out,aw.out⟩;clear al ap a6 aw hL hH hall L0 x4 e4 hlen hat hok hg ht hk hkn bw hn hnm hgw lpast;have b7:=av.out;subst b7;clear av;go_upto_region 30 with (fail)
   rename_i QQ KB hKB K2 hK2;clear hKB KB QQ;revert C;revert hK2;revert base g x w y gs w6 w7 wr pb PW a0 a1 a2 a3 lv lt n A6 c6 m K2;revert t5 t7 t8 t9 t10 t14 t17 t18 t19 t20 t21 t22 t23 t24 t25 t26 t27 t28 t29 t30 t31 t32 t33 t34 t35 t36 t37 t38 t39 t40 t41 t42 t43 t44 t45 t46 t47 t48 t49 t50 t51 t52 t53 t54 t55 t56 t57 t58 t59 t60 t61 t62 t63 t64 t65 t66 t67 t68 t69 t70 t71 t72 t126 t127 t128 t129 t130 t131 t132 t133 t134 t135 t136 t137 t138 t139 t140 t141 t142 t143 t144 t145 t146 t147 t148 t149 t150 t151 t152 t153 t154 t155 t156 t157 t158 t159 t160 t161 t162 t163 t164 t165 t166 t167 t168 t169 t170 t171 t172 t173 t174 t175 t176 t177 t178 t179 t180 t181 t182 t183 t184 t185 t186 t187 t188 t189 t190 t191 t192 t193 t194 t195 t196 t197 t198 t199 t200 t201 t202 t203 t204 t205 t206 t207 t208 t209 t210 t211 t212 t213 t214 t215 t216 t217 t218 t219 t220 t221 t222 t223 t224 t225 t226 t227 t228 t229 t230 t231 t232 t233 u15 u16 u84 u85 u86 u87 u88 u89 u90 u91 u92 u93 u94 u95 u96 u97 u98 u99 u100 u101 u102 u103 u104 u105 u106 u107 u108 u109 u110 u111 u112 u113 u114 u115 u116 u117 u118 u119 u120 u121 u122 u123 u124 u125;exact hP.down)
theorem Ae1 (a0 a1 a2 a3 b0 b1 b2 b3:Int) (w:World):(Op.equalIn 10000 112 (.agg #[.int .u64 a0,.int .u64 a1,.int .u64 a2,.int .u64 a3]) (.agg #[.int .u64 b0,.int .u64 b1,.int .u64 b2,.int .u64 b3])).run zp w=.ok (a0==b0&&a1==b1&&a2==b2&&a3==b3) w:=by
 obtain ⟨ht,hinfo,_⟩:=Ot;obtain ⟨i,hi,_⟩:=info_parts hinfo;rw [show (10000:Nat)=9999+1 from rfl,run_equalIn_array w 9999 _ _ underlying112 hi,O6,show List.range 4=[0,1,2,3] from rfl];simp only [Op.eqItems];go_simp
 by_cases h1:a0=b0<;>by_cases h2:a1=b1<;>by_cases h3:a2=b2<;>by_cases h4:a3=b3<;>simp [h1,h2,h3,h4]
theorem Ae2:zp.eqGuardType zp.depth 112=false:=by kernel_rfl
theorem Kc (b:Nat):((b:Int)==0)=(b==0):=by
 rw [Bool.eq_iff_iff,beq_iff_eq,beq_iff_eq];omega
structure DSt (w wr:World) (base:Nat) (g:Gph) (x y:OpL) (gs:Nat) (n0 n1 n2 n3 lv:Nat) (wa:World):Prop where
 A:M8 w wa base g x y gs
 bx:Blk wr w.heap.size 44 x.cells
 bn:Blk wr gs 114 (⟨y,x.op.name,n0,n1,n2,n3,lv⟩:Ai).cells.toArray
 yown:y.own wr w.heap.size
 fr:Fr Non w wr
 lo1:w.heap.size<gs
 set:Bj [n0,n1,n2,n3] (fun q=>Bd g.pns x.op.past q||C9 g.pns x.op.past q)
 hlv:lv=lvl g.pns x.op.past
 err:An g.cards g.pns x.op=if Bn g.pns (Aq g.pns x.op.past) x.op=true then 11 else 0
def addD:PSigma (fun P:Prop=>PLift P->addC.1):=PSigma.mk _ (by
 intro hP;conv=>whnf
 intro s5 s7 s8 s9 s10 s14 s17 s18 s19 s20 s21 s22 s23 s24 s25 s26 s27 s28 s29 s30 s31 s32 s33 s34 s35 s36 s37 s38 s39 s40 s41 s42 s43 s44 s45 s46 s47 s48 s49 s50 s51 s52 s53 s54 s55 s56 s57 s58 s59 s60 s61 s62 s63 s64 s65 s66 s67 s68 s69 s70 s71 s72 s126 s127 s128 s129 s130 s131 s132 s133 s134 s135 s136 s137 s138 s139 s140 s141 s142 s143 s144 s145 s146 s147 s148 s149 s150 s151 s152 s153 s154 s155 s156 s157 s158 s159 s160 s161 s162 s163 s164 s165 s166 s167 s168 s169 s170 s171 s172 s173 s174 s175 s176 s177 s178 s179 s180 s181 s182 s183 s184 s185 s186 s187 s188 s189 s190 s191 s192 s193 s194 s195 s196 s197 s198 s199 s200 s201 s202 s203 s204 s205 s206 s207 s208 s209 s210 s211 s212 s213 s214 s215 s216 s217 s218 s219 s220 s221 s222 s223 s224 s225 s226 s227 s228 s229 s230 s231 s232 s233 s15 s16 s84 s85 s86 s87 s88 s89 s90 s91 s92 s93 s94 s95 s96 s97 s98 s99 s100 s101 s102 s103 s104 s105 s106 s107 s108 s109 s110 s111 s112 s113 s114 s115 s116 s117 s118 s119 s120 s121 s122 s123 s124 s125 base g x w y gs m w6 A6 c6 n w7 pb wv PW a0 a1 a2 a3 lv lt K hK C;have L:=C.L
 obtain ⟨p0,p1,p2,p3,rfl⟩:∃p0 p1 p2 p3,PW=[p0,p1,p2,p3]:=by
  match PW,C.par.len with
  |[p0,p1,p2,p3],_=>exact ⟨p0,p1,p2,p3,rfl⟩
 have ac:Hid (Bj [p0&&&a0,p1&&&a1,p2&&&a2,p3&&&a3] (fun k=>C9 g.pns x.op.past k&&Bd g.pns x.op.past k)):=Bj.and C.par C.abv;have ak:Hid (Bj [a0|||p0,a1|||p1,a2|||p2,a3|||p3] (fun k=>Bd g.pns x.op.past k||C9 g.pns x.op.past k)):=Bj.or C.abv C.par;have ax:=C.par.u64;have a5:=C.abv.u64;have hC:=lh C;have hlt:=lh C.hlt;have r0:wv.cell? ⟨pb,0,none⟩=some (.int .u64 (p0:Int)):=L.bp.cell 0;have r1:wv.cell? ⟨pb,1,none⟩=some (.int .u64 (p1:Int)):=L.bp.cell 1;have r2:wv.cell? ⟨pb,2,none⟩=some (.int .u64 (p2:Int)):=L.bp.cell 2;have r3:wv.cell? ⟨pb,3,none⟩=some (.int .u64 (p3:Int)):=L.bp.cell 3;have L1:=L.non ((Fr.refl Non wv).alloc (.cells #[.int .u64 (p0:Int),.int .u64 (p1:Int),.int .u64 (p2:Int),.int .u64 (p3:Int)] 112));have ah:=Blk.new wv 112 #[.int .u64 (p0:Int),.int .u64 (p1:Int),.int .u64 (p2:Int),.int .u64 (p3:Int)];have bd:pb+1<wv.heap.size:=L.ba.lt;have bj:gs<wv.heap.size:=L.bn.lt;obtain ⟨CX,ae⟩:=Aa x.cells;have e3:Hid (CX[3]? =some (.int .i64 x.at_)):=by show _=_;rw [<- ae.out];rfl
 rw [ae.out];obtain ⟨vf,ap⟩:∃vf:Nat->Value,vf=fun k=> .int .u64 (((Lv [p0,p1,p2,p3] [a0,a1,a2,a3]).getD k 0:Nat):Int):=⟨_,rfl⟩
 have aq:Hid (Eg #[.int .u64 (p0:Int),.int .u64 (p1:Int),.int .u64 (p2:Int),.int .u64 (p3:Int)] 0 vf 4=#[.int .u64 ((p0&&&a0:Nat):Int),.int .u64 ((p1&&&a1:Nat):Int),.int .u64 ((p2&&&a2:Nat):Int),.int .u64 ((p3&&&a3:Nat):Int)]):=by
  show _=_;rw [ap];rfl
 have ar:Hid (∀k,k<4->vf k=.int .u64 (bits .and .u64 (([p0,p1,p2,p3].getD k 0:Nat):Int) (([a0,a1,a2,a3].getD k 0:Nat):Int))):=fun k hk=>by
  rw [ap,u64_and_nat _ _ (ax k) (a5 k),<- Lx _ _ k hk]
 have a7:Hid (∀k,k<4->(#[.int .u64 (p0:Int),.int .u64 (p1:Int),.int .u64 (p2:Int),.int .u64 (p3:Int)]:Array Value)[k]? =some (.int .u64 (([p0,p1,p2,p3].getD k 0:Nat):Int))):=fun k hk=>by
  match k,hk with
  |0,_=>rfl
  |1,_=>rfl
  |2,_=>rfl
  |3,_=>rfl
 clear ap ax a5 C L;go_upto_region 31 with (fail)
 obtain ⟨bb,bg⟩:=Aa wv.heap.size;rw [bg.out] at ah bd bj ⊢;generalize wv.alloc (.cells #[.int .u64 (p0:Int),.int .u64 (p1:Int),.int .u64 (p2:Int),.int .u64 (p3:Int)] 112)=w1 at*
 have aw:Hid (∀k,k<4->w1.cell? ⟨pb+1,k,none⟩=some (.int .u64 (([a0,a1,a2,a3].getD k 0:Nat):Int))):=fun k hk=>by
  rw [L1.ba.cell]
  match k,hk with
  |0,_=>rfl
  |1,_=>rfl
  |2,_=>rfl
  |3,_=>rfl
 clear r0 r1 r2 r3;go_wp2_with fail
 go_loopw [127] (fun v wr=>∃i:Nat,v=.int .i64 (i:Int)/\i<=4/\Blk wr bb 112 (Eg #[.int .u64 (p0:Int),.int .u64 (p1:Int),.int .u64 (p2:Int),.int .u64 (p3:Int)] 0 vf i)/\Fr (One bb) w1 wr) (fun v _=>4-(intOf v).toNat)
 case atStart=>exact ⟨0,rfl,by omega,ah,Fr.refl _ _⟩
 case round=>
  obtain ⟨i,rfl,bo,ab,hf⟩:=hrel
  by_cases hi:i<4
  ·
   clear hP L1 ah hC hlt ac ak e3 aq
   as_aux_lemma=>
   have i1:(0:Int)<=i:=by omega
   have i2:(i:Int)<4:=by omega
   have i3:(i:Int).toNat=i:=by omega
   have i4:=iw (i:Int);have c1:wr.cell? ⟨bb,i,none⟩=some (.int .u64 (([p0,p1,p2,p3].getD i 0:Nat):Int)):=by rw [ab.cell,Pc _ _ _ _ _ (by omega)];exact a7.out i hi
   have c2:wr.cell? ⟨pb+1,i,none⟩=some (.int .u64 (([a0,a1,a2,a3].getD i 0:Nat):Int)):=hf.cell (aw.out i hi) (by show ¬pb+1=bb;omega);have z1:=ab.frozen i;have bk:=lh (ar.out i hi);generalize [p0,p1,p2,p3].getD i 0=pi at*;generalize [a0,a1,a2,a3].getD i 0=ai at*;go_upto_region 34 with (fail)
   refine Cr (S:=(fun w'=>w'.cell? ⟨bb,i,none⟩=some (.int .u64 (pi:Int))/\w'.cell? ⟨pb+1,i,none⟩=some (.int .u64 (ai:Int)))) 8 (by kernel_rfl) ?_;have hS:(fun w'=>w'.cell? ⟨bb,i,none⟩=some (.int .u64 (pi:Int))/\w'.cell? ⟨pb+1,i,none⟩=some (.int .u64 (ai:Int))) wr.drew:=⟨c1,c2⟩;replace c1:wr.drew.cell? ⟨bb,i,none⟩=some (.int .u64 (pi:Int)):=c1;replace z1:wr.drew.frozen? ⟨bb,i,none⟩=false:=z1;replace ab:Blk wr.drew bb 112 (Eg #[.int .u64 (p0:Int),.int .u64 (p1:Int),.int .u64 (p2:Int),.int .u64 (p3:Int)] 0 vf i):=ab;replace hf:=hf.drew;generalize wr.drew=w2 at*;refine tkG 0 hS (h:=tkG 1 hS (h:=tkG 2 hS (h:=tkG 3 hS (h:=tkG 4 hS (h:=tkG 5 hS (h:=tkG 6 hS (h:=tkG 7 hS (h:=?_))))))));simp only [zl];refine Ck (by kernel_rfl) ?_;refine oG 8 (fun K hK=> ?_);go_simp;refine hK.out _ _ trivial (fun hZ=> ?_);clear hZ hK K;try simp only [Ah,zl]
   refine oD ?_;go_simp
   have al:Blk (w2.setCell ⟨bb,i,none⟩ (vf i)) bb 112 (Eg #[.int .u64 (p0:Int),.int .u64 (p1:Int),.int .u64 (p2:Int),.int .u64 (p3:Int)] 0 vf (i+1)):=by
    have h1:=ab.set (0+i) (vf i);rw [Ax5] at h1;show Blk _ _ _ ((Eg #[.int .u64 (p0:Int),.int .u64 (p1:Int),.int .u64 (p2:Int),.int .u64 (p3:Int)] 0 vf i).setIfInBounds (0+i) (vf i));rw [Ax5];exact h1
   have a4:=hf.setOne i (vf i);rw [bk.out] at al a4;clear ab hf hS c1 c2 z1 ar;go_wp2_with fail;go_roundw
   case rel=>exact ⟨i+1,by go_num,by omega,al,a4⟩
   case measure=>simp [intOf];omega
  ·
   obtain rfl:i=4:=by omega
   rw [aq.out] at ab
   have L2:LSt w wr x y gs pb [p0,p1,p2,p3] a0 a1 a2 a3 lv:=by
    have h1:=L1.lo1;have h2:=L1.lo2;have hw:w.heap.size<bb:=by omega
    exact ⟨L1.bx.fr hf (by unfold One;omega),L1.bn.fr hf (by unfold One;omega),L1.bp.fr hf (by unfold One;omega),L1.ba.fr hf (by unfold One;omega),L1.yown.keepP hf (Types.one ah) (by decide) (by decide) (by decide) (by decide) (by decide) (by decide) (by decide),L1.fr.trans hf (fun k hk e=>by have e':k=bb:=e;omega),h1,h2⟩
   have hz:=Yd ac.out;obtain ⟨b0,av⟩:=Aa (p0&&&a0);obtain ⟨b1,az⟩:=Aa (p1&&&a1);obtain ⟨b2,al⟩:=Aa (p2&&&a2);obtain ⟨b3,bh⟩:=Aa (p3&&&a3);rw [av.out,az.out,al.out,bh.out] at ab hz;obtain ⟨cl,af⟩:=Aa (clash g.pns x.op.past)
   have bm:∀w',(Op.equalIn 10000 112 (.agg #[.int .u64 (b0:Int),.int .u64 (b1:Int),.int .u64 (b2:Int),.int .u64 (b3:Int)]) (.agg #[.int .u64 0,.int .u64 0,.int .u64 0,.int .u64 0])).run zp w'=.ok (!cl) w':=fun w'=>by
    rw [Ae1,Kc,Kc,Kc,Kc,hz,<- af.out];rfl
   have hm:=Ae2;have k0:wr.cell? ⟨bb,0,none⟩=some (.int .u64 (b0:Int)):=ab.cell 0;have k1:wr.cell? ⟨bb,1,none⟩=some (.int .u64 (b1:Int)):=ab.cell 1;have k2:wr.cell? ⟨bb,2,none⟩=some (.int .u64 (b2:Int)):=ab.cell 2;have k3:wr.cell? ⟨bb,3,none⟩=some (.int .u64 (b3:Int)):=ab.cell 3
   have x3:wr.cell? ⟨w.heap.size,3,none⟩=some (.int .i64 x.at_):=by
    have h:=L2.bx.cell 3;rw [ae.out,e3.out] at h;exact h
   clear hz av az al bh ab hf L1 ah aw ar a7 aq hi bo ac;go_upto_region 36 with (fail)
   obtain ⟨bad,aa⟩:=Aa (cl||decide (x.at_<lt))
   go_cut [147] from 139 to 147 (fun s wc=>wr=wc/\s=.bool bad)
   case first=>
    clear hP L2 hC hlt ak e3
    as_aux_lemma=>
    cases cl
    ·
     have hv:Hid (decide (x.at_<lt)=bad):=by show _=_;rw [<- aa.out];rfl
     go_wp2_with fail;go_meet;exact ⟨rfl,hB hv⟩
    ·
     have hv:Hid (true=bad):=by show _=_;rw [<- aa.out];rfl
     go_wp2_with fail;go_meet;exact ⟨rfl,hB hv⟩
   case rest=>
   obtain ⟨rfl,rfl⟩:=hcut;clear k0 k1 k2 k3 x3 bm hm
   cases bad
   case true=>
    have bl:=lh (AddPost.bad (base:=base) (w':=wr) (by
     rw [hC.out.A.err,if_pos (by
      have h1:=aa.out;rw [Bool.or_eq_true,decide_eq_true_iff] at h1;rw [af.out,<- hlt.out];exact h1)]) (by decide) L2.fr)
    clear hP hC hlt L2 ak aa af
    as_aux_lemma=>
    go_wp2_with fail
    go_ret
    exact bl.out
   case false=>
    have aj:Hid (An g.cards g.pns x.op=if Bn g.pns (Aq g.pns x.op.past) x.op=true then 11 else 0):=by
     show _=_
     rw [hC.out.A.err,if_neg (by
      have h1:=aa.out;rw [Bool.or_eq_false_iff,decide_eq_false_iff_not] at h1;rw [af.out,<- hlt.out,h1.1];intro h2
      rcases h2 with h2|h2
      · cases h2
      · exact h1.2 h2)]
    clear aa af hlt;have m0:wr.cell? ⟨pb+1,0,none⟩=some (.int .u64 (a0:Int)):=L2.ba.cell 0;have m1:wr.cell? ⟨pb+1,1,none⟩=some (.int .u64 (a1:Int)):=L2.ba.cell 1;have m2:wr.cell? ⟨pb+1,2,none⟩=some (.int .u64 (a2:Int)):=L2.ba.cell 2;have m3:wr.cell? ⟨pb+1,3,none⟩=some (.int .u64 (a3:Int)):=L2.ba.cell 3;have y0:wr.cell? ⟨gs,30,none⟩=some (.int .u64 0):=L2.bn.cell 30;have y1:wr.cell? ⟨gs,31,none⟩=some (.int .u64 0):=L2.bn.cell 31;have y2:wr.cell? ⟨gs,32,none⟩=some (.int .u64 0):=L2.bn.cell 32;have y3:wr.cell? ⟨gs,33,none⟩=some (.int .u64 0):=L2.bn.cell 33;have z0:wr.frozen? ⟨gs,30,none⟩=false:=L2.bn.frozen 30;have z1:wr.frozen? ⟨gs,31,none⟩=false:=L2.bn.frozen 31;have z2:wr.frozen? ⟨gs,32,none⟩=false:=L2.bn.frozen 32;have z3:wr.frozen? ⟨gs,33,none⟩=false:=L2.bn.frozen 33;have ao:=L2.lo1;have au:=L2.lo2;have fN:Fr (One gs) wr ((((wr.setCell ⟨gs,30,none⟩ (.int .u64 (a0:Int))).setCell ⟨gs,31,none⟩ (.int .u64 (a1:Int))).setCell ⟨gs,32,none⟩ (.int .u64 (a2:Int))).setCell ⟨gs,33,none⟩ (.int .u64 (a3:Int))):=((((Fr.refl (One gs) wr).setOne 30 _).setOne 31 _).setOne 32 _).setOne 33 _;have bN:Blk ((((wr.setCell ⟨gs,30,none⟩ (.int .u64 (a0:Int))).setCell ⟨gs,31,none⟩ (.int .u64 (a1:Int))).setCell ⟨gs,32,none⟩ (.int .u64 (a2:Int))).setCell ⟨gs,33,none⟩ (.int .u64 (a3:Int))) gs 114 (⟨y,x.op.name,a0,a1,a2,a3,lv⟩:Ai).cells.toArray:=(((L2.bn.set 30 _).set 31 _).set 32 _).set 33 _;have a9:=L2.bx.fr fN (by unfold One;omega);have ag:=L2.bp.fr fN (by unfold One;omega);have yN:=L2.yown.keepP fN (Types.one L2.bn) (by decide) (by decide) (by decide) (by decide) (by decide) (by decide) (by decide);have a8:Fr Non w ((((wr.setCell ⟨gs,30,none⟩ (.int .u64 (a0:Int))).setCell ⟨gs,31,none⟩ (.int .u64 (a1:Int))).setCell ⟨gs,32,none⟩ (.int .u64 (a2:Int))).setCell ⟨gs,33,none⟩ (.int .u64 (a3:Int))):=L2.fr.trans fN (fun k hk e=>by have e':k=gs:=e;omega);clear L2;go_upto_region 39 with (fail)
    clear m0 m1 m2 m3 y0 y1 y2 y3 z0 z1 z2 z3 fN;generalize ((((wr.setCell ⟨gs,30,none⟩ (.int .u64 (a0:Int))).setCell ⟨gs,31,none⟩ (.int .u64 (a1:Int))).setCell ⟨gs,32,none⟩ (.int .u64 (a2:Int))).setCell ⟨gs,33,none⟩ (.int .u64 (a3:Int)))=w3 at*;have r0:w3.cell? ⟨pb,0,none⟩=some (.int .u64 (p0:Int)):=ag.cell 0;have r1:w3.cell? ⟨pb,1,none⟩=some (.int .u64 (p1:Int)):=ag.cell 1;have r2:w3.cell? ⟨pb,2,none⟩=some (.int .u64 (p2:Int)):=ag.cell 2;have r3:w3.cell? ⟨pb,3,none⟩=some (.int .u64 (p3:Int)):=ag.cell 3
    have ad:Gc w3 gs 30 [a0,a1,a2,a3]:=fun j hj=>by
     rw [bN.cell]
     match j,hj with
     |0,_=>rfl
     |1,_=>rfl
     |2,_=>rfl
     |3,_=>rfl
    have kw:=lh (Pd gs 30 114 _ [a0,a1,a2,a3] p0 p1 p2 p3 _ _ w3 hC.out.abv hC.out.par bN ad)
    have hD:Hid (∀w4,Blk w4 gs 114 (Iw (⟨y,x.op.name,a0,a1,a2,a3,lv⟩:Ai).cells.toArray 30 (orW [a0,a1,a2,a3] [p0,p1,p2,p3]))->Fr (One gs) w3 w4->DSt w w4 base g x y gs (a0|||p0) (a1|||p1) (a2|||p2) (a3|||p3) lv w6):=by
     intro w4 hb hf;exact ⟨hC.out.A,a9.fr hf (by unfold One;omega),hb,yN.keepP hf (Types.one bN) (by decide) (by decide) (by decide) (by decide) (by decide) (by decide) (by decide),a8.trans hf (fun k hk e=>by have e':k=gs:=e;omega),ao,ak.out,hC.out.hlv,aj.out⟩
    clear ad bN a9 ag yN a8 hC ak aj ao au;go_upto_region 40 with (go_at_call 69;(with_reducible refine (kw.out).mono ?_);rintro _ w4 ⟨rfl,ay,bc⟩)
    have D:=hD.out w4 ay bc;clear hD ay bc kw r0 r1 r2 r3;obtain ⟨n0,bi⟩:=Aa (a0|||p0);obtain ⟨n1,bf⟩:=Aa (a1|||p1);obtain ⟨n2,be⟩:=Aa (a2|||p2);obtain ⟨n3,a6⟩:=Aa (a3|||p3);rw [bi.out,bf.out,be.out,a6.out] at D;clear bi bf be a6 e3 bj bd bg;rename_i QQ KB hKB K2 hK2;clear hKB KB QQ;have bq:=ae.out;subst bq;clear ae;revert D;revert hK2;revert base g x w y gs m w6 A6 c6 n w7 pb wv a0 a1 a2 a3 lv lt p0 p1 p2 p3 n0 n1 n2 n3 bb w1 wr b0 b1 b2 b3 cl w3 w4 K2;revert s5 s7 s8 s9 s10 s14 s15 s16 s19 s20 s21 s22 s23 s24 s25 s26 s27 s28 s29 s30 s31 s32 s33 s34 s35 s36 s37 s38 s39 s40 s41 s42 s43 s44 s45 s46 s47 s48 s49 s50 s51 s52 s53 s54 s55 s56 s57 s58 s59 s60 s61 s62 s63 s64 s65 s66 s67 s68 s69 s70 s71 s72 s84 s85 s86 s87 s88 s89 s90 s91 s92 s93 s94 s95 s96 s97 s98 s99 s100 s101 s102 s103 s104 s105 s106 s107 s108 s109 s110 s111 s112 s113 s114 s115 s116 s117 s118 s119 s120 s121 s122 s123 s124 s125 s152 s153 s154 s155 s156 s157 s158 s159 s160 s161 s162 s163 s164 s165 s166 s167 s168 s169 s170 s171 s172 s173 s174 s175 s176 s177 s178 s179 s180 s181 s182 s183 s184 s185 s186 s187 s188 s189 s190 s191 s192 s193 s194 s195 s196 s197 s198 s199 s200 s201 s202 s203 s204 s205 s206 s207 s208 s209 s210 s211 s212 s213 s214 s215 s216 s217 s218 s219 s220 s221 s222 s223 s224 s225 s226 s227 s228 s229 s230 s231 s232 s233 u18 u128 u129 u130 u131 u132 u133 u134 u135 u136 u137 u138 u139 u140 u141 u142 u143 u144 u145 u146;exact hP.down)
end Oq
theorem Own.block {w:World} {base size n c:Nat} {t:TypeId} {A:Option Addr} {xs:List Value} (h:Own w base t size A n c xs) {k:Nat} (hk:Ae A=some k):∃cs fr,w.heap[k]? =some (.cells cs t fr):=by
 rcases h.2 with ⟨hv,_⟩|⟨g,cap,cur,hv,_,hg,_⟩
 ·
  injection hv with hA
  subst hA
  cases hk
 ·
  injection hv with hA
  subst hA;injection hk with hk
  subst hk;exact ⟨_,_,hg⟩
theorem Own.keepT {S:Nat->Prop} {w w':World} {base size n c:Nat} {t:TypeId} {A:Option Addr} {xs:List Value} {P:TypeId->Prop} (h:Own w base t size A n c xs) (hf:Fr S w w') (hS:Oq.Types S w P) (ht:¬P t):Own w' base t size A n c xs:=
 h.fr hf (fun k hk e=>by
  obtain ⟨cs,fr,hb⟩:=h.block hk;exact ht (hS _ _ _ _ hb e))
namespace Oq
theorem MapAt.ismap {w:World} {b m:Nat} {f:Id->Option Nat} (h:MapAt w b m f):∀cs t fr,w.heap[b]? ≠some (.cells cs t fr):=by
 intro cs t fr e;obtain ⟨n,D,ho,_⟩:=h;obtain ⟨es,clock,hbl,_⟩:=ho;rw [e] at hbl
 cases hbl
theorem Na {o:Op} (h:o.ok):o.name.ok:=by
 have hu:=M9 o;unfold Op.name;generalize o.id=u at*;exact ⟨h.by_,h.sq,hu⟩
def Gty (t:TypeId):Prop:=t=119\/t=114
theorem GAt.types {w:World} {base:Nat} {g:Gph} (h:GAt w base g):Types g.own w Gty:=by
 intro k cs t fr hk e
 rcases e with e|e|e
 ·
  subst e;have h1:=h.blk;unfold Blk at h1;rw [hk] at h1;injection h1 with h1
  injection h1 with _ h2
  exact .inl h2
 ·
  subst e;exact absurd hk (h.map.ismap _ _ _)
 · exact .inr (Types.row h.own k cs t fr hk e)
theorem Ae3 {l:List Ai} {n:Ai} (h:Ak l n.id=none) (y:Id):(if y=n.id then some l.length else Ak l y)=Ak (l++[n]) y:=by
 unfold Ak at*;rw [List.findIdx?_append]
 by_cases e:y=n.id
 ·
  subst e;rw [if_pos rfl,h];simp
 ·
  rw [if_neg e]
  have h2:([n].findIdx? (fun m=>decide (m.id=y)))=none:=by
   simp [List.findIdx?_cons,show ¬n.id=y from fun e2=>e e2.symm]
  rw [h2]
  cases l.findIdx? (fun m=>decide (m.id=y))<;>simp
theorem Sf:SlT zp 117 114 (.agg zN) 35 392:=⟨underlying117,by kernel_rfl,rfl,by decide⟩
theorem Ae4 {w w4 wd w5 w6 w7 wa:World} {base:Nat} {g:Gph} {x y:OpL} {gs n0 n1 n2 n3 lv:Nat} {A':Option Addr} {c':Nat} (hg:GAt w base g) (D:DSt w w4 base g x y gs n0 n1 n2 n3 lv wa) (herr:An g.cards g.pns x.op=0)
  (fd:Fr Non w4 wd) (hm:MapAt w5 g.mb (g.mm+1) (fun z=>if z=x.op.name then some g.nodes.length else Ak g.nodes z)) (f5:Fr (One g.mb) wd w5) (f6:Fr Non w5 w6)
  (own7:Own w7 base 114 35 A' (g.nodes.length+1) c' (g.nodes.flatMap Ai.cells++(⟨y,x.op.name,n0,n1,n2,n3,lv⟩:Ai).cells)) (f7:Fr (fun k=>Ae g.nA=some k) w6 w7) (hat:Ae A'=Ae g.nA\/Ae A'=some w6.heap.size):
  AddPost base g x.op w (.returned (.int .i64 0)) (w7.setCell ⟨g.gb,2,none⟩ (.slice A' (g.nodes.length+1) c')):=by
 obtain ⟨N,hN⟩:∃N:Ai,N=⟨y,x.op.name,n0,n1,n2,n3,lv⟩:=⟨_,rfl⟩;have aa:N.id=x.op.name:=by rw [hN]
 have ak:N.ws=[n0,n1,n2,n3]:=by rw [hN];rfl
 rw [<- hN] at own7;have ax:=hg.blk.lt;have af:base<=w.heap.size:=Nat.le_trans hg.gbase (Nat.le_of_lt ax);have ah:Fr Non w wd:=D.fr.trans fd zr;have aw:=hg.fr ah;have ty:=hg.types
 have ab:g.gb≠g.mb:=fun e=>by
  have h1:=hg.blk;unfold Blk at h1;rw [e] at h1;exact hg.map.ismap _ _ _ h1
 have al:¬Ae g.nA=some g.mb:=fun e=>by
  obtain ⟨cs,fr,hb⟩:=hg.own.block e;exact hg.map.ismap _ _ _ hb
 have ap:¬Ae g.nA=some g.gb:=hg.own.ne hg.blk (by decide)
 have ac:∀{w0:World},Fr Non w0 wd->Fr g.own w0 (w7.setCell ⟨g.gb,2,none⟩ (.slice A' (g.nodes.length+1) c')):=by
  intro w0 h0;have F5:Fr g.own w0 w5:=(Fr.of_non h0 g.own).trans f5 (fun i _ e=> .inr (.inl e));have F6:Fr g.own w0 w6:=F5.trans f6 (fun _ _ e=>e.elim);have F7:Fr g.own w0 w7:=F6.trans f7 (fun i _ e=> .inr (.inr e));exact F7.setCell (p:=⟨g.gb,2,none⟩) (fun _=> .inl rfl) _
 have F8:=ac ah;have au:=ac fd;have av:=(hg.fr D.fr).types
 have b7:Blk w7 g.gb 119 #[.slice g.cA g.cards.length g.cC,.map (some g.mb),.slice g.nA g.nodes.length g.nC]:=
  ((aw.blk.fr f5 (fun e=>ab e)).fr f6 zq).fr f7 ap
 have ae:Ae A'≠some g.gb:=own7.ne b7 (by decide);have fz:Fr (One g.gb) w7 (w7.setCell ⟨g.gb,2,none⟩ (.slice A' (g.nodes.length+1) c')):=(Fr.refl _ _).setOne 2 _;have m8:=(((hm.fr f6 zq).fr f7 al).fr fz (fun e=>ab e.symm))
 have ar:Ak g.nodes N.id=none:=by
  rw [aa,<- Gf];exact D.A.new
 have ai:MapAt (w7.setCell ⟨g.gb,2,none⟩ (.slice A' (g.nodes.length+1) c')) g.mb (g.mm+1) (Ak (g.nodes++[N])):=by
  have e:(fun z=>if z=x.op.name then some g.nodes.length else Ak g.nodes z)=Ak (g.nodes++[N]):=by
   funext z;rw [<- aa];exact Ae3 ar z
  rw [<- e];exact m8
 have ad:(g.nodes++[N]).length=g.nodes.length+1:=by simp
 have ao:lv<=g.nodes.length+1:=by
  rw [D.hlv];refine Qs g.pns g.nodes.length (fun n hn=> ?_) _;obtain ⟨m,hm,rfl⟩:=List.mem_map.1 hn;exact hg.levs m hm
 have ag:Bj N.ws N.past:=by
  rw [ak];refine ⟨rfl,D.set.u64,fun n hn=> ?_⟩;unfold Ai.past;rw [ak]
 have aq:N.past=Aq g.pns x.op.past:=by
  have h1:Bj N.ws (fun q=>Bd g.pns x.op.past q||C9 g.pns x.op.past q):=by rw [ak];exact D.set
  rw [Yc h1];rfl
 have aj:N.okAt (w7.setCell ⟨g.gb,2,none⟩ (.slice A' (g.nodes.length+1) c')) base:=by
  refine ⟨?_,?_,?_,ag⟩
  ·
   rw [hN];exact (D.yown.keepP au av (by unfold Gty;decide) (by unfold Gty;decide) (by unfold Gty;decide) (by unfold Gty;decide) (by unfold Gty;decide) (by unfold Gty;decide) (by unfold Gty;decide)).lower af
  ·
   have h1:N.x.op=x.op:=by rw [hN];exact D.A.yop
   rw [h1];exact D.A.hok
  ·
   rw [aa];exact Na D.A.hok
 refine ⟨by rw [herr],.inr ⟨herr,⟨g.gb,g.mb,g.mm+1,g.cA,g.cC,g.cards,A',c',g.nodes++[N]⟩,?_,rfl,rfl,rfl,?_,F8,?_,N,rfl,?_⟩⟩
 ·
  refine ⟨?_,hg.pos,hg.gbase,hg.mbase,hg.crow.keepT F8 ty (by unfold Gty;decide),?_,?_,?_,?_,hg.cfew,hg.cok,ai,?_⟩
  ·
   show Blk _ g.gb _ #[.slice g.cA g.cards.length g.cC,.map (some g.mb),.slice A' (g.nodes++[N]).length c'];rw [ad];exact b7.set 2 _
  ·
   show Own _ base 114 35 A' (g.nodes++[N]).length c' ((g.nodes++[N]).flatMap Ai.cells);rw [ad,List.flatMap_append,List.flatMap_cons,List.flatMap_nil,List.append_nil];exact own7.setOne ae
  ·
   show (g.nodes++[N]).length<=200;have:=D.A.few;omega
  ·
   show g.mm+1<=(g.nodes++[N]).length;have:=hg.mfew;omega
  ·
   intro n hn;show n.lev<=(g.nodes++[N]).length;rw [ad]
   rcases List.mem_append.1 hn with hn|hn
   ·
    have:=hg.levs n hn;omega
   ·
    obtain rfl:=List.mem_singleton.1 hn;rw [hN];exact ao
  ·
   intro n hn
   rcases List.mem_append.1 hn with hn|hn
   ·
    have k:=hg.node n hn;exact ⟨k.own.keepP F8 ty (by unfold Gty;decide) (by unfold Gty;decide) (by unfold Gty;decide) (by unfold Gty;decide) (by unfold Gty;decide) (by unfold Gty;decide) (by unfold Gty;decide),k.ok,k.id,k.set⟩
   ·
    obtain rfl:=List.mem_singleton.1 hn;exact aj
 ·
  show (g.nodes++[N]).map Ai.pn=g.nodes.map Ai.pn++[Be g.pns x.op];rw [List.map_append,List.map_cons,List.map_nil];congr 2;unfold Ai.pn Be;rw [aq,aa];congr 1
  ·
   rw [hN];exact D.A.yop
  ·
   rw [hN];exact D.hlv
 ·
  intro k hk e
  rcases e with e|e|e
  · exact .inl e
  · exact .inr (.inl e)
  ·
   refine .inr (.inr ?_);have e':Ae A'=some k:=e
   rcases hat with h1|h1
   ·
    rw [<- h1];exact e'
   ·
    rw [h1] at e';injection e' with e'
    have:=(ah.size);have h5:=f5.size;have h6:=f6.size;omega
 ·
  rw [hN];exact D.yown.keepP au av (by unfold Gty;decide) (by unfold Gty;decide) (by unfold Gty;decide) (by unfold Gty;decide) (by unfold Gty;decide) (by unfold Gty;decide) (by unfold Gty;decide)
end Oq
end Go.Proofs.YtihfebhfgliojaaGreatDoor
