/-
  Contracts of the functions that the claim's statement reaches, walked one by one (part 11).
  Conditions: as each theorem says.
-/
import Derived.Test.YtihfebhfgliojaaGreatDoorGrW7
import Derived.Test.YtihfebhfgliojaaGreatDoorGrW10
set_option maxRecDepth 100000
set_option maxHeartbeats 16000000
open Bool renaming not_false->An8,not_true->An9,not_eq_true->Ao5
open Int renaming le_refl->Ao0
open List renaming getElem?_eq_getElem->An3,getElem?_map->An4,take_of_length_le->An5,mem_of_getElem?->An6,length_append->An7,getElem?_of_mem->Ao4,take_add_one->Ao6,flatMap_append->Ao7
open Nat renaming ne_of_lt->Ao1,le_trans->Ao2
open Go.World renaming size_alloc->Ao3
open Go.Proofs.Tryz
open Go.Proofs.Tryz renaming prog->zp
open Go.Lib renaming hid->lh
open List renaming set->zl
open Go.Ending renaming returned->ze
namespace Go.Proofs.YtihfebhfgliojaaGreatDoor
open Go.RowKit
attribute [local go_sem ↓] Go.wp_at_zero Go.wp_at_succ
namespace Oq
theorem Qk {G P:Prop} (h:P->G) (hp:P):G:=h hp
theorem Dt {c:Prop} [Decidable c] {A B:Prop} (h:c) (ha:A):if c then A else B:=by rw [if_pos h];exact ha
def bdS (t:TypeId) (parts:Array (Nat × Value)):=Instr.build t parts
theorem Ql (p:Array (Nat × Value)):Instr.build 114 p=bdS 114 p:=rfl
theorem Z7 {P:Program} (w:World) (t:TypeId) (parts:Array (Nat × Value)) (cells:Array Value) (h:P.built t parts.toList=some cells):(bdS t parts).run P w=.ok (.agg cells) w:=run_build w t parts cells h
attribute [local go_sem ↓] Cg Il Im Ql
attribute [local go_sem] An8 An9
def AddPost (base:Nat) (g:Gph) (o:Op) (w:World) (e:Ending) (w':World):Prop:=
 e=.returned (.int .i64 (Ah g.cards g.pns o))/\
 ((Ah g.cards g.pns o≠0/\Fr Non w w')\/(Ah g.cards g.pns o=0/\∃g':Gph,GAt w' base g'/\g'.gb=g.gb/\g'.mb=g.mb/\g'.cards=g.cards/\g'.pns=g.pns++[Au g.pns o]/\Fr g.own w w'/\(∀k,k<w.heap.size->g'.own k->g.own k)/\∃n:Ag,g'.nodes=g.nodes++[n]/\n.x.own w' w.heap.size))
theorem AddPost.bad {base:Nat} {g:Gph} {o:Op} {w w':World} {err:Int} (h:Ah g.cards g.pns o=err) (h0:err≠0) (hf:Fr Non w w'):AddPost base g o w (.returned (.int .i64 err)) w':=by
 subst h;exact ⟨rfl,.inl ⟨h0,hf⟩⟩
theorem Z8 (y:OpL) (b s:Int) (u:Nat):zp.built 114 [(0,.agg y.cells),(1,.agg #[.int .i64 b,.int .i64 s,.int .u64 (u:Int)]),(3,.int .i64 1)]=some (⟨y,⟨b,s,u⟩,0,0,0,0,1⟩:Ag).cells.toArray:=by kernel_rfl
structure Lb (w w':World) (base:Nat) (g:Gph) (x y:OpL) (gn:Nat):Prop where
 hg:GAt w base g
 hat:x.at w w.heap.size
 hok:x.op.ok
 bx:Blk w' w.heap.size 44 x.cells
 bn:Blk w' gn 114 (⟨y,x.op.name,0,0,0,0,1⟩:Ag).cells.toArray
 gn:w.heap.size<gn
 yop:y.op=x.op
 yown:y.own w' w.heap.size
 fr:Fr Non w w'
 chk:x.op.chk=0
 few:g.nodes.length<200
 all:x.past.any (fun id=>(plc g.pns id).isNone)=false
 new:plc g.pns x.op.name=none
 err:Ah g.cards g.pns x.op=if clash g.pns x.op.past=true\/x.op.at_<late g.pns x.op.past then 6 else if Ba g.pns (Aj g.pns x.op.past) x.op=true then 11 else 0
section
variable {cards : List Cd} {l : List Pn} {o : Op}
theorem Qm (h:o.chk≠0):Ah cards l o=o.chk:=by unfold Ah;rw [if_pos h]
theorem Qn (h:o.chk=0) (h2:(plc l o.name).isSome=true):Ah cards l o=5:=by unfold Ah;rw [h,if_neg (by simp),if_pos h2]
theorem Qo (h:o.chk=0) (h2:plc l o.name=none) (h3:200<=l.length):Ah cards l o=3:=by unfold Ah;rw [h,h2,if_neg (by simp),if_neg (by simp),if_pos h3]
theorem Iz (h:o.chk=0) (h2:plc l o.name=none) (h3:l.length<200):Ah cards l o=match Bk cards o.by_ with
  |none=>17
  |some c=>
   if Sg.check c.s o.bare o.r o.s=false then 12
   else if o.kind=1/\l≠[] then 1
   else if o.past.any (fun id=>(plc l id).isNone)=true then 10
   else if clash l o.past=true\/o.at_<late l o.past then 6
   else if Ba l (Aj l o.past) o=true then 11
   else 0:=by unfold Ah;rw [h,h2,if_neg (by simp),if_neg (by simp),if_neg (by omega)];rfl
end
theorem Lc (o:Op):U64 o.id:=by
 have h:o.id<2305843009213693951:=Hs.of_lt _ _;exact Nat.lt_trans h (by decide)
theorem Z9 (g:Gph) (l:List Id):(l.filter (fun id=> !(Af g.nodes id).isSome)).length=0<->l.any (fun id=>(plc g.pns id).isNone)=false:=by
 rw [List.length_eq_zero_iff,List.filter_eq_nil_iff,List.any_eq_false]
 have h:∀id,(plc g.pns id).isNone=!(Af g.nodes id).isSome:=by
  intro id;show (plc (g.nodes.map Ag.pn) id).isNone=_;rw [Fv]
  cases Af g.nodes id<;>rfl
 constructor
 ·
  intro h1 id hid;rw [h];exact h1 id hid
 ·
  intro h1 id hid;have:=h1 id hid;rwa [h] at this
structure AddS0 (w w':World) (base:Nat) (g:Gph) (x y:OpL) (gn ui:Nat):Prop where
 hg:GAt w base g
 hat:x.at w w.heap.size
 hok:x.op.ok
 chk:x.op.chk=0
 id:x.op.id=ui
 bx:Blk w' w.heap.size 44 x.cells
 bn:Blk w' gn 114 (⟨y,⟨x.by_,x.sq,ui⟩,0,0,0,0,1⟩:Ag).cells.toArray
 gn:w.heap.size<gn
 yop:y.op=x.op
 yown:y.own w' w.heap.size
 fr:Fr Non w w'
def addA:PSigma (fun P:Prop=>PLift P->∀(base:Nat) (g:Gph) (x:OpL) (w:World),GAt w base g->x.at w w.heap.size->x.op.ok->KindsAt w->Calls zp 17 #[.pointer (some ⟨g.gb,0,none⟩),.agg x.cells] w (AddPost base g x.op w)):=PSigma.mk _ (by
 intro hP base g x w hg hat hok hkn;have hi:(zp.info? 44).map (·.size)=some 27:=by kernel_rfl
 have bn:(zp.info? 114).map (·.size)=some 35:=by kernel_rfl
 have au:x.past.length<=1000000:=by have h:=hok.past.1;rw [show x.op.past=x.past from rfl] at h;omega
 have f0:Fr Non w (w.alloc (.cells x.cells 44)):=(Fr.refl Non w).alloc _;have bs:=Blk.new w 44 x.cells;have bw:=Bb (P:=zp) w.heap.size 44 underlying44 rfl (cs:=x.cells) hi;have ah:=lh (fun w' (h:Fr Non w w')=>Km x w' (OpL.frame hat h) hok (hkn.fr h));have bl:=lh (fun w' (h:x.at w' w'.heap.size)=>Yb x w' h hok);have a3:=lh (fun w' (h:x.at w' w'.heap.size)=>Wa x w' h hok);have bu:=lh (fun w' (h:Fr Non w w')=>Nr base g x.by_ w' (hg.fr h) hg.cfew);have bt:=lh (fun (c:Cd) (hc:c.s<18446744073709551616) w' (h:x.at w' w'.heap.size)=>Om c.d c.m c.l c.k c.s x w' h hok hc);have bv:=lh (fun w' (h:Fr Non w w')=>Pg base g x w' Pp (hg.fr h) (OpL.frame hat h) (fun id hid=>hok.past.2 id hid) au);have bo:=lh (fun (y:OpL) (ui:Nat) (w':World)=>Z7 (P:=zp) w' 114 #[(0,.agg y.cells),(1,.agg #[.int .i64 x.by_,.int .i64 x.sq,.int .u64 (ui:Int)]),(3,.int .i64 1)] _ (Z8 y x.by_ x.sq ui));have a1:=lh (fun (err:Int) (w':World) (h:Ah g.cards g.pns x.op=err) (h0:err≠0) (hf:Fr Non w w')=>AddPost.bad (base:=base) h h0 hf);have a2:=Lc x.op;obtain ⟨ui,bd⟩:=Aa x.op.id
 have a0:Hid (x.op.name=⟨x.by_,x.sq,ui⟩):=by
  show _=_;unfold Op.name;rw [bd.out];rfl
 have bp:Hid (plc g.pns x.op.name=Af g.nodes ⟨x.by_,x.sq,ui⟩):=by
  show _=_;rw [a0.out];exact Fv _ _
 rw [bd.out] at a2;have bf:(Id.mk x.by_ x.sq ui).ok:=⟨hok.by_,hok.sq,a2⟩;obtain ⟨CX,a9⟩:=Aa x.cells;have e0:Hid (CX[0]? =some (.int .i64 x.by_)):=by show _=_;rw [<- a9.out];rfl
 have e2:Hid (CX[2]? =some (.int .i64 x.kind)):=by show _=_;rw [<- a9.out];rfl
 rw [a9.out] at f0 bs bw ah bl a3 bt bv ⊢;have b7:=lh hg;have bh:=lh hok;have br:=lh hat;unfold Ix at ah;unfold Kk at a3;unfold En at bu;unfold Ae at bt;obtain ⟨EC,be⟩:=Aa x.op.chk;rw [be.out] at ah;rw [bd.out] at a3;have bb:Hid (∀e w',AddPost base g x.op w e w'->AddPost base g x.op w e w'):=fun _ _ h=>h;clear hkn hok;go_enter func17,ntmps17;go_upto_region 1 with (fail)
 generalize w.alloc (.cells CX 44)=w0 at*;go_wp2_with fail;refine (ah.out _ f0).mono ?_;rintro _ w1 ⟨rfl,f1⟩;have b0:=bs.fr f1 zq;have aj:=f0.trans f1 zr;clear bs f0 f1 ah
 by_cases hc0:EC=0
 case neg=>
  have hb:(EC !=0)=true:=by simpa using hc0
  have bi:=lh (a1.out EC w1 ((Qm (by rw [be.out];exact hc0)).trans be.out) hc0 aj);clear hc0 a1 hP;go_wp2_with fail
  go_ret
  exact bi.out
 case pos=>
  subst hc0;go_upto_region 4 with (fail)
  obtain ⟨wd,bc⟩:=Aa w1.drew;have av:Blk wd w.heap.size 44 CX:=by rw [<- bc.out];exact b0.drew
  have a8:Fr Non w wd:=by rw [<- bc.out];exact aj.drew
  have bk:x.at wd wd.heap.size:=OpL.frame hat a8;have bx:w.heap.size<wd.heap.size:=av.lt;apply Qk
  case h=>
   intro bi;refine wp_region_held_drew (S:=fun w'=>Blk w' w.heap.size 44 CX) (by kernel_rfl) (by rw [bc.out];exact av) (fun _=> ?_);rw [bc.out];refine tkH 0 av (h:=?_);(try simp only [zl]);refine tkH 2 av (h:=?_);(try simp only [zl]);refine wpAnyH_ready (rs:=[1,5]) (by kernel_rfl) (by simp) ?_;refine AllReadyH.cons rfl (fun K hK=> ?_) ?_
   ·
    refine Dt (by kernel_rfl) ?_;go_simp;go_wp2_with (go_at_call 63;(with_reducible refine (bl.out _ bk).mono ?_);rintro _ u1 ⟨y,rfl,af,ag,f1⟩);have a4:=av.fr f1 zq;have a7:=OpL.frame bk f1;have aj:=a8.trans f1 zr;refine hK.out _ _ a4 (fun _=> ?_);clear hK K;try simp only [Ad,zl]
    refine wpAnyH_ready (rs:=[3,5]) (by kernel_rfl) (by simp) ?_;refine AllReadyH.cons rfl (fun K hK=> ?_) ?_
    ·
     refine Dt (by kernel_rfl) ?_;go_simp;go_wp2_with (go_at_call 64;(with_reducible refine (a3.out _ a7).mono ?_);rintro _ u2 ⟨rfl,f2⟩);have ak:=a4.fr f2 zq;have a5:=OpL.frame a7 f2;have a6:=aj.trans f2 zr;refine hK.out _ _ ak (fun _=> ?_);clear hK K;try simp only [Ad,zl]
     have bg:=fun w'=>bo.out y ui w';refine tkH 4 ak (h:=?_);(try simp only [zl]);clear bg;refine Bh 5 (by kernel_rfl) rfl (by kernel_rfl) (fun K hK=> ?_);go_simp;have b3:=Blk.new u2 114 zN;have bm:Fr Non u2 (u2.alloc (.cells zN 114)):=(Fr.refl Non _).alloc _;have al:=ak.fr bm zq;have b2:=OpL.frame a5 bm;have ba:=a6.trans bm zr;refine hK.out _ _ al (fun _=> ?_);clear hK K;try simp only [Ad,zl]
     have bz:=b3;have ar:w.heap.size<=u2.heap.size:=a6.size;have ax:w.heap.size≠u2.heap.size:=Ao1 ak.lt;have yo:=(ag.non f2).non bm;have ad:w.heap.size<=wd.heap.size:=a8.size;refine Bh 6 (by kernel_rfl) rfl (by kernel_rfl) (fun K hK=> ?_);have aa:=Gz (⟨y,⟨x.by_,x.sq,ui⟩,0,0,0,0,1⟩:Ag);obtain ⟨NC,ac⟩:=Aa (⟨y,⟨x.by_,x.sq,ui⟩,0,0,0,0,1⟩:Ag).cells.toArray;have ae:(zp.info? 114).map (·.size)=some NC.size:=by rw [<- ac.out];exact bn
     have ab:NC.size=35:=by rw [<- ac.out];rfl
     rw [ac.out] at aa ⊢;refine Eh 114 (.tmp 6) (.tmp 32) (g:=u2.heap.size) (cs:=NC) rfl rfl (by rfl) (by rfl) bz ae ab.symm aa ?_;have ap:w.heap.size≠u2.heap.size:=ax;have ai:=al.setRow_far (cs:=NC) ap;have ay:=bz.setRow (cs:=NC);have aq:=ba.setRow (g:=u2.heap.size) (fun h=>absurd h (Nat.not_lt.2 ar)) NC;have az:=(yo.keepP ((Fr.refl (One (u2.heap.size)) (u2.alloc (.cells zN 114))).setRow (g:=u2.heap.size) (fun _=>rfl) NC) (Types.one bz) (by decide) (by decide) (by decide) (by decide) (by decide) (by decide) (by decide)).lower ad;have aw:w.heap.size<u2.heap.size:=by omega
     refine hK.out _ _ ai (fun hzz=> ?_);clear hK K hzz;refine oD ?_;go_simp;clear ap aa bz ar ax ad yo ag ae ab;revert az aq ay ai af aw;generalize (u2.alloc (.cells zN 114)).setRow (u2.heap.size) NC=wF;generalize u2.heap.size=gs;rw [<- ac.out];clear ac NC;revert wF gs y;exact bi
    refine AllReadyH.cons rfl (fun K hK=> ?_) AllReadyH.nil
    ·
     refine Dt (by kernel_rfl) ?_;go_simp;have b6:=Blk.new u1 114 zN;have bj:Fr Non u1 (u1.alloc (.cells zN 114)):=(Fr.refl Non _).alloc _;have ak:=a4.fr bj zq;have a5:=OpL.frame a7 bj;have a6:=aj.trans bj zr;refine hK.out _ _ ak (fun _=> ?_);clear hK K;try simp only [Ad,zl]
     refine Bh 3 (by kernel_rfl) rfl (by kernel_rfl) (fun K hK=> ?_);go_simp;go_wp2_with (go_at_call 64;(with_reducible refine (a3.out _ a5).mono ?_);rintro _ u3 ⟨rfl,f3⟩);have al:=ak.fr f3 zq;have b2:=OpL.frame a5 f3;have ba:=a6.trans f3 zr;refine hK.out _ _ al (fun _=> ?_);clear hK K;try simp only [Ad,zl]
     have bg:=fun w'=>bo.out y ui w';refine tkH 4 al (h:=?_);(try simp only [zl]);clear bg;have bz:=b6.fr f3 zq;have ar:w.heap.size<=u1.heap.size:=aj.size;have ax:w.heap.size≠u1.heap.size:=Ao1 a4.lt;have yo:=(ag.non bj).non f3;have ad:w.heap.size<=wd.heap.size:=a8.size;refine Bh 6 (by kernel_rfl) rfl (by kernel_rfl) (fun K hK=> ?_);have aa:=Gz (⟨y,⟨x.by_,x.sq,ui⟩,0,0,0,0,1⟩:Ag);obtain ⟨NC,ac⟩:=Aa (⟨y,⟨x.by_,x.sq,ui⟩,0,0,0,0,1⟩:Ag).cells.toArray;have ae:(zp.info? 114).map (·.size)=some NC.size:=by rw [<- ac.out];exact bn
     have ab:NC.size=35:=by rw [<- ac.out];rfl
     rw [ac.out] at aa ⊢;refine Eh 114 (.tmp 6) (.tmp 32) (g:=u1.heap.size) (cs:=NC) rfl rfl (by rfl) (by rfl) bz ae ab.symm aa ?_;have ap:w.heap.size≠u1.heap.size:=ax;have ai:=al.setRow_far (cs:=NC) ap;have ay:=bz.setRow (cs:=NC);have aq:=ba.setRow (g:=u1.heap.size) (fun h=>absurd h (Nat.not_lt.2 ar)) NC;have az:=(yo.keepP ((Fr.refl (One (u1.heap.size)) (u3)).setRow (g:=u1.heap.size) (fun _=>rfl) NC) (Types.one bz) (by decide) (by decide) (by decide) (by decide) (by decide) (by decide) (by decide)).lower ad;have aw:w.heap.size<u1.heap.size:=by omega
     refine hK.out _ _ ai (fun hzz=> ?_);clear hK K hzz;refine oD ?_;go_simp;clear ap aa bz ar ax ad yo ag ae ab;revert az aq ay ai af aw;generalize (u3).setRow (u1.heap.size) NC=wF;generalize u1.heap.size=gs;rw [<- ac.out];clear ac NC;revert wF gs y;exact bi
   refine AllReadyH.cons rfl (fun K hK=> ?_) AllReadyH.nil
   ·
    refine Dt (by kernel_rfl) ?_;go_simp;have b5:=Blk.new wd 114 zN;have bq:Fr Non wd (wd.alloc (.cells zN 114)):=(Fr.refl Non _).alloc _;have a4:=av.fr bq zq;have a7:=OpL.frame bk bq;have aj:=a8.trans bq zr;refine hK.out _ _ a4 (fun _=> ?_);clear hK K;try simp only [Ad,zl]
    refine Bh 1 (by kernel_rfl) rfl (by kernel_rfl) (fun K hK=> ?_);go_simp;go_wp2_with (go_at_call 63;(with_reducible refine (bl.out _ a7).mono ?_);rintro _ u2 ⟨y,rfl,af,ag,f2⟩);have ak:=a4.fr f2 zq;have a5:=OpL.frame a7 f2;have a6:=aj.trans f2 zr;refine hK.out _ _ ak (fun _=> ?_);clear hK K;try simp only [Ad,zl]
    refine Bh 3 (by kernel_rfl) rfl (by kernel_rfl) (fun K hK=> ?_);go_simp;go_wp2_with (go_at_call 64;(with_reducible refine (a3.out _ a5).mono ?_);rintro _ u3 ⟨rfl,f3⟩);have al:=ak.fr f3 zq;have b2:=OpL.frame a5 f3;have ba:=a6.trans f3 zr;refine hK.out _ _ al (fun _=> ?_);clear hK K;try simp only [Ad,zl]
    have bg:=fun w'=>bo.out y ui w';refine tkH 4 al (h:=?_);(try simp only [zl]);clear bg;have bz:Blk u3 wd.heap.size 114 zN:=(b5.fr f2 zq).fr f3 zq;have ar:w.heap.size<=wd.heap.size:=Nat.le_of_lt bx;have ax:w.heap.size≠wd.heap.size:=Ao1 av.lt;have yo:=ag.non f3;have ad:w.heap.size<=(wd.alloc (.cells zN 114)).heap.size:=aj.size;refine Bh 6 (by kernel_rfl) rfl (by kernel_rfl) (fun K hK=> ?_);have aa:=Gz (⟨y,⟨x.by_,x.sq,ui⟩,0,0,0,0,1⟩:Ag);obtain ⟨NC,ac⟩:=Aa (⟨y,⟨x.by_,x.sq,ui⟩,0,0,0,0,1⟩:Ag).cells.toArray;have ae:(zp.info? 114).map (·.size)=some NC.size:=by rw [<- ac.out];exact bn
    have ab:NC.size=35:=by rw [<- ac.out];rfl
    rw [ac.out] at aa ⊢;refine Eh 114 (.tmp 6) (.tmp 32) (g:=wd.heap.size) (cs:=NC) rfl rfl (by rfl) (by rfl) bz ae ab.symm aa ?_;have ap:w.heap.size≠wd.heap.size:=ax;have ai:=al.setRow_far (cs:=NC) ap;have ay:=bz.setRow (cs:=NC);have aq:=ba.setRow (g:=wd.heap.size) (fun h=>absurd h (Nat.not_lt.2 ar)) NC;have az:=(yo.keepP ((Fr.refl (One (wd.heap.size)) (u3)).setRow (g:=wd.heap.size) (fun _=>rfl) NC) (Types.one bz) (by decide) (by decide) (by decide) (by decide) (by decide) (by decide) (by decide)).lower ad;have aw:w.heap.size<wd.heap.size:=by omega
    refine hK.out _ _ ai (fun hzz=> ?_);clear hK K hzz;refine oD ?_;go_simp;clear ap aa bz ar ax ad yo ag ae ab;revert az aq ay ai af aw;generalize (u3).setRow (wd.heap.size) NC=wF;generalize wd.heap.size=gs;rw [<- ac.out];clear ac NC;revert wF gs y;exact bi
  case hp=>
   rename_i K hK;intro y wF gs af ai ay aq az aw;refine hK _ _ ?_;clear hK K;have H:AddS0 w wF base g x y gs ui:=⟨hg,hat,bh.out,be.out,bd.out,by rw [a9.out];exact ai,ay,aw,af,az,aq⟩;have b4:=a9.out;subst b4;clear hg hat hi bn au bu bo a1 a2 bd a0 bp bf bv bt e0 e2 a9 b7 bh br bb be bw av a8 bk bx bl a3 aj b0 bc af ai ay aq az aw;clear w0 w1 wd;revert H;revert base g x w ui y wF gs;exact hP.down)
end Oq
namespace Oq
def Dl (l:List Pn) (o:Op):Int:=if clash l o.past=true\/o.at_<late l o.past then 6 else if Ba l (Aj l o.past) o=true then 11 else 0
def Es (l:List Pn) (o:Op):Int:=if o.past.any (fun id=>(plc l id).isNone)=true then 10 else Dl l o
theorem Aa0 {cards:List Cd} {l:List Pn} {o:Op} (h:o.chk=0) (h2:plc l o.name=none) (h3:l.length<200) (h4:Bk cards o.by_=none):Ah cards l o=17:=by
 rw [Iz h h2 h3,h4]
theorem Aa1 {cards:List Cd} {l:List Pn} {o:Op} {c:Cd} (h:o.chk=0) (h2:plc l o.name=none) (h3:l.length<200) (h4:Bk cards o.by_=some c) (h5:Sg.check c.s o.bare o.r o.s=false):Ah cards l o=12:=by
 rw [Iz h h2 h3,h4];dsimp only;rw [if_pos h5]
theorem Aa2 {cards:List Cd} {l:List Pn} {o:Op} {c:Cd} (h:o.chk=0) (h2:plc l o.name=none) (h3:l.length<200) (h4:Bk cards o.by_=some c) (h5:Sg.check c.s o.bare o.r o.s=true):
  Ah cards l o=if o.kind=1/\l≠[] then 1 else Es l o:=by
 rw [Iz h h2 h3,h4];dsimp only;rw [if_neg (by rw [h5];simp)];rfl
theorem Aa3 {l:List Pn} {o:Op} {y:Id} (hy:y∈o.past) (h:(plc l y).isNone=true):Es l o=10:=by
 unfold Es;rw [if_pos (List.any_eq_true.2 ⟨y,hy,h⟩)]
theorem Aa4 {l:List Pn} {o:Op} (h:∀y∈o.past,∃p,plc l y=some p):Es l o=Dl l o:=by
 unfold Es;rw [if_neg];intro e;obtain ⟨y,hy,he⟩:=List.any_eq_true.1 e;obtain ⟨p,hp⟩:=h y hy;rw [hp] at he
 cases he
theorem Ld {l:List Pn} {ids:List Id} {a p:Nat} (h:∀y∈ids,∃p,plc l y=some p) (ha:(Am l ids)[a]? =some p):∃y,y∈ids/\plc l y=some p:=by
 unfold Am at ha;rw [An4] at ha
 cases hy:ids[a]? with
 |none=>rw [hy] at ha;cases ha
 |some y=>
  rw [hy] at ha;injection ha with ha
  have hm:=An6 hy;obtain ⟨q,hq⟩:=h y hm;have ha0:(plc l y).getD 0=p:=ha;rw [hq] at ha0;have ha':q=p:=ha0;subst ha';exact ⟨y,hm,hq⟩
theorem Le {l:List Pn} {ids:List Id} {y:Id} {p:Nat} (hy:y∈ids) (hp:plc l y=some p):∃a:Nat,(Am l ids)[a]? =some p:=by
 obtain ⟨a,ha⟩:=Ao4 hy;refine ⟨a,?_⟩;unfold Am;rw [An4,ha];simp [hp]
theorem Aa5 {l:List Pn} {o:Op} (hlen:l.length<=200) (h:∀y∈o.past,∃p,plc l y=some p) {a b p q:Nat} {m:Pn} (h1:(Am l o.past)[a]? =some p) (h2:(Am l o.past)[b]? =some q) (h3:l[p]? =some m) (h4:m.ps q=true):Dl l o=6:=by
 obtain ⟨y,hy,hp⟩:=Ld h h1;obtain ⟨z,hz,hq⟩:=Ld h h2;unfold Dl;rw [if_pos (Or.inl (Xe hlen hy hz hp hq h3 h4))]
theorem Aa6 {l:List Pn} {o:Op} (h:∀y∈o.past,∃p,plc l y=some p) {a p:Nat} {m:Pn} (h1:(Am l o.past)[a]? =some p) (h3:l[p]? =some m) (h4:o.at_<m.o.at_):Dl l o=6:=by
 obtain ⟨y,hy,hp⟩:=Ld h h1;unfold Dl;rw [if_pos (Or.inr (Xg hy hp h3 h4))]
theorem Aa7 {l:List Pn} {o:Op} (h0:0<=o.at_) (h:∀y∈o.past,∃p,plc l y=some p) (h1:∀(a b p q:Nat) (m:Pn),(Am l o.past)[a]? =some p->(Am l o.past)[b]? =some q->l[p]? =some m->m.ps q=false)
  (h2:∀(a p:Nat) (m:Pn),(Am l o.past)[a]? =some p->l[p]? =some m->m.o.at_<=o.at_):Dl l o=if Ba l (Aj l o.past) o=true then 11 else 0:=by
 unfold Dl;rw [if_neg];rintro (e|e)
 ·
  rw [Xf (fun a ha b hb p r m k1 k2 k3=> ?_)] at e
  · cases e
  ·
   obtain ⟨i,hi⟩:=Le ha k1;obtain ⟨j,hj⟩:=Le hb k2;exact h1 i j p r m hi hj k3
 ·
  refine Xi h0 h (fun a ha p m k1 k2=> ?_) e;obtain ⟨i,hi⟩:=Le ha k1;exact h2 i p m hi k2
theorem Qp {cards:List Cd} {l:List Pn} (h:Rows cards l) {ids:List Id} (hids:∀id∈ids,∃p,plc l id=some p):
  C5 (Df l) (Am l ids) l.length (fun _=>false)=Aj l ids:=funext (fun q=>W9 h hids q)
def RowLies (w:World) (base:Nat) (t:TypeId) (size:Nat) (A:Option Addr) (n c:Nat) (xs:List Value):Prop:=
 SlAt w w.heap.size size A n c xs/\(n=0\/∃k off cs fr,A=some ⟨k,off,none⟩/\base<=k/\w.heap[k]? =some (.cells cs t fr))
section
variable {S : Nat -> Prop} {P : TypeId -> Prop} {w w' : World} {base base' size n c : Nat} {t : TypeId} {A : Option Addr} {xs : List Value}
theorem RowAt.lies (h:RowAt w base t size A n c xs):RowLies w base t size A n c xs:=⟨h.1,h.2.imp zq (fun ⟨k,cs,fr,e,h1,h2,_⟩=>⟨k,0,cs,fr,e,h1,h2⟩)⟩
theorem RowLies.fr (h:RowLies w base t size A n c xs) (hf:Fr S w w') (hs:n≠0->∀k cs fr,Ab A=some k->w.heap[k]? =some (.cells cs t fr)->¬S k):RowLies w' base t size A n c xs:=by
 obtain ⟨⟨⟨h1,h2⟩,h3⟩,h4⟩:=h
 rcases h4 with h0|⟨k,o,cs,fr,rfl,hk,hb⟩
 · exact ⟨⟨⟨h1,.inl h0⟩,h3⟩,.inl h0⟩
 ·
  by_cases h0:n=0
  · exact ⟨⟨⟨h1,.inl h0⟩,h3⟩,.inl h0⟩
  ·
   have hkl:=(Array.getElem?_eq_some_iff.1 hb).1;have hbk:=hf.block k hkl (hs h0 k cs fr rfl hb);refine ⟨⟨⟨h1,?_⟩,h3⟩,.inr ⟨k,o,cs,fr,rfl,hk,hbk.trans hb⟩⟩
   rcases h2 with h2|⟨b,off,e,hlt,hc⟩
   · exact .inl h2
   ·
    injection e with e
    injection e with e1 e2
    subst e1 e2;exact .inr ⟨k,o,rfl,Nat.lt_of_lt_of_le hkl hf.size,fun j u hu=>(World.cell?_of_block hbk).trans (hc j u hu)⟩
theorem RowLies.keepT (h:RowLies w base t size A n c xs) (hf:Fr S w w') (hS:∀k cs fr,w.heap[k]? =some (.cells cs t fr)->¬S k):RowLies w' base t size A n c xs:=h.fr hf (fun _ k cs fr _ hb=>hS k cs fr hb)
theorem RowLies.non (h:RowLies w base t size A n c xs) (hf:Fr Non w w'):RowLies w' base t size A n c xs:=h.fr hf (fun _ _ _ _ _ _ e=>e)
theorem RowLies.lower (h:RowLies w base t size A n c xs) (hb:base'<=base):RowLies w base' t size A n c xs:=
 ⟨h.1,h.2.imp id fun ⟨k,o,cs,fr,e,hk,r⟩=>⟨k,o,cs,fr,e,Ao2 hb hk,r⟩⟩
end
structure OpL.lies (w:World) (base:Nat) (x:OpL):Prop where
 past:RowLies w base 38 3 x.pastA x.past.length x.pastC (x.past.flatMap Id.cells)
 path:RowLies w base 94 2 x.pathA x.path.length x.pathC (x.path.flatMap NdL.cells)
 nodes:∀y∈x.path,RowLies w base 148 4 y.A y.xs.length y.c (y.xs.flatMap Bx.cells)
 body:RowLies w base 5 1 x.bodyA x.body.length x.bodyC (x.body.map Bv)
 refs:RowLies w base 23 1 x.refsA x.refs.length x.refsC (x.refs.map Uv)
 guards:RowLies w base 3 1 x.guardsA x.guards.length x.guardsC (x.guards.map Iv)
 boxes:RowLies w base 148 4 x.boxesA x.boxes.length x.boxesC (x.boxes.flatMap Bx.cells)
 hist:RowLies w base 97 4 x.histA x.hist.length x.histC (x.hist.flatMap SlL.cells)
 seals:∀y∈x.hist,RowLies w base 5 1 y.A y.y.length y.c (y.y.map Bv)
theorem OpL.own.lies {w:World} {base:Nat} {x:OpL} (h:x.own w base):x.lies w base where
 past:=h.past.lies
 path:=h.path.lies
 nodes y hy:=(h.nodes y hy).lies
 body:=h.body.lies
 refs:=h.refs.lies
 guards:=h.guards.lies
 boxes:=h.boxes.lies
 hist:=h.hist.lies
 seals y hy:=(h.seals y hy).lies
theorem OpL.lies.at {w:World} {base:Nat} {x:OpL} (h:x.lies w base):x.at w w.heap.size where
 past:=h.past.1
 path:=h.path.1
 nodes y hy:=(h.nodes y hy).1
 body:=h.body.1
 refs:=h.refs.1
 guards:=h.guards.1
 boxes:=h.boxes.1
 hist:=h.hist.1
 seals y hy:=(h.seals y hy).1
theorem OpL.lies.lower {w:World} {base base':Nat} {x:OpL} (h:x.lies w base) (hb:base'<=base):x.lies w base' where
 past:=h.past.lower hb
 path:=h.path.lower hb
 nodes y hy:=(h.nodes y hy).lower hb
 body:=h.body.lower hb
 refs:=h.refs.lower hb
 guards:=h.guards.lower hb
 boxes:=h.boxes.lower hb
 hist:=h.hist.lower hb
 seals y hy:=(h.seals y hy).lower hb
theorem OpL.lies.keepP {S:Nat->Prop} {P:TypeId->Prop} {w w':World} {base:Nat} {x:OpL} (h:x.lies w base) (hf:Fr S w w') (hS:Types S w P) (h1:¬P 38) (h2:¬P 94) (h3:¬P 148) (h4:¬P 5) (h5:¬P 23) (h6:¬P 3) (h7:¬P 97):x.lies w' base where
 past:=h.past.keepT hf (hS.not h1)
 path:=h.path.keepT hf (hS.not h2)
 nodes y hy:=(h.nodes y hy).keepT hf (hS.not h3)
 body:=h.body.keepT hf (hS.not h4)
 refs:=h.refs.keepT hf (hS.not h5)
 guards:=h.guards.keepT hf (hS.not h6)
 boxes:=h.boxes.keepT hf (hS.not h3)
 hist:=h.hist.keepT hf (hS.not h7)
 seals y hy:=(h.seals y hy).keepT hf (hS.not h4)
theorem OpL.lies.non {w w':World} {base:Nat} {x:OpL} (h:x.lies w base) (hf:Fr Non w w'):x.lies w' base:=
 h.keepP (P:=fun _=>False) hf (fun _ _ _ _ _ e=>e.elim) zq zq zq zq zq zq zq
def Qv (q:Nat):Value:=Iv (q:Int)
structure UpL where
 A:Option Addr
 c:Nat
 xs:List Nat
def UpL.cell (x:UpL):Value:=.slice x.A x.xs.length x.c
def UpL.own (w:World) (base:Nat) (x:UpL):Prop:=RowAt w base 3 1 x.A x.xs.length x.c (x.xs.map Qv)
structure InL where
 A:Option Addr
 c:Nat
 bs:List Bool
def InL.cell (x:InL):Value:=.slice x.A x.bs.length x.c
def InL.own (w:World) (base:Nat) (x:InL):Prop:=RowAt w base 4 1 x.A x.bs.length x.c (x.bs.map Value.bool)
structure RG where
 cA:Option Addr
 cC:Nat
 cards:List Cd
 lA:Option Addr
 lC:Nat
 xs:List OpL
 iA:Option Addr
 iC:Nat
 uA:Option Addr
 uC:Nat
 us:List UpL
 nA:Option Addr
 nC:Nat
 ns:List InL
 l:List Pn
def RG.ids (r:RG):List Id:=r.l.map Pn.id
def RG.cells (r:RG):Array Value:=#[.slice r.cA r.cards.length r.cC,.slice r.lA r.l.length r.lC,.slice r.iA r.l.length r.iC,.slice r.uA r.l.length r.uC,.slice r.nA r.l.length r.nC]
structure RG.own (w:World) (base:Nat) (r:RG):Prop where
 cards:RowAt w base 104 5 r.cA r.cards.length r.cC (r.cards.flatMap Cd.cells)
 ops:RowAt w base 44 27 r.lA r.l.length r.lC (r.xs.flatMap (fun x=>x.cells.toList))
 each:∀x∈r.xs,x.lies w base
 same:r.xs.map OpL.op=r.l.map Pn.o
 ok:∀n∈r.l,n.o.ok/\n.id.ok
 ids:RowAt w base 38 3 r.iA r.l.length r.iC (r.ids.flatMap Id.cells)
 ups:RowAt w base 22 1 r.uA r.l.length r.uC (r.us.map UpL.cell)
 eachU:∀x∈r.us,x.own w base
 sameU:r.us.map UpL.xs=Fb r.l
 ins:RowAt w base 108 1 r.nA r.l.length r.nC (r.ns.map InL.cell)
 eachN:∀x∈r.ns,x.own w base
 sameN:r.ns.map InL.bs=Dd r.l
 rows:Rows r.cards r.l
 cfew:r.cards.length<=1000
 cok:∀c∈r.cards,c.s<18446744073709551616
theorem RG.own.lower {w:World} {base base':Nat} {r:RG} (h:r.own w base) (hb:base'<=base):r.own w base' where
 cards:=h.cards.lower hb
 ops:=h.ops.lower hb
 each x hx:=(h.each x hx).lower hb
 same:=h.same
 ok:=h.ok
 ids:=h.ids.lower hb
 ups:=h.ups.lower hb
 eachU x hx:=(h.eachU x hx).lower hb
 sameU:=h.sameU
 ins:=h.ins.lower hb
 eachN x hx:=(h.eachN x hx).lower hb
 sameN:=h.sameN
 rows:=h.rows
 cfew:=h.cfew
 cok:=h.cok
theorem RG.own.keepP {S:Nat->Prop} {P:TypeId->Prop} {w w':World} {base:Nat} {r:RG} (h:r.own w base) (hf:Fr S w w') (hS:Types S w P) (h1:¬P 38) (h2:¬P 94) (h3:¬P 148) (h4:¬P 5) (h5:¬P 23) (h6:¬P 3) (h7:¬P 97)
  (h8:¬P 104) (h9:¬P 44) (h10:¬P 22) (h11:¬P 108) (h12:¬P 4):r.own w' base where
 cards:=h.cards.keepT hf (hS.not h8)
 ops:=h.ops.keepT hf (hS.not h9)
 each x hx:=(h.each x hx).keepP hf hS h1 h2 h3 h4 h5 h6 h7
 same:=h.same
 ok:=h.ok
 ids:=h.ids.keepT hf (hS.not h1)
 ups:=h.ups.keepT hf (hS.not h10)
 eachU x hx:=RowAt.keepT (h.eachU x hx) hf (hS.not h6)
 sameU:=h.sameU
 ins:=h.ins.keepT hf (hS.not h11)
 eachN x hx:=RowAt.keepT (h.eachN x hx) hf (hS.not h12)
 sameN:=h.sameN
 rows:=h.rows
 cfew:=h.cfew
 cok:=h.cok
theorem RG.own.non {w w':World} {base:Nat} {r:RG} (h:r.own w base) (hf:Fr Non w w'):r.own w' base:=
 h.keepP (P:=fun _=>False) hf (fun _ _ _ _ _ e=>e.elim) zq zq zq zq zq zq zq zq zq zq zq zq
theorem RG.own.few {w:World} {base:Nat} {r:RG} (h:r.own w base):r.l.length<=200:=h.rows.few
theorem RG.own.rdIds {w:World} {base:Nat} {r:RG} (h:r.own w base):Rd w w.heap.size 3 r.iA r.l.length (r.ids.flatMap Id.cells):=h.ids.sl.rd
theorem RG.own.xAt {w:World} {base:Nat} {r:RG} (h:r.own w base) {i:Nat} {n:Pn} (hi:r.l[i]? =some n):
  ∃(x:OpL) (b off:Nat),r.xs[i]? =some x/\x.op=n.o/\x.lies w base/\r.lA=some ⟨b,off,none⟩/\b<w.heap.size/\∀j,j<27->∀u,x.cells.toList[j]? =some u->w.cell? ⟨b,off+i*27+j,none⟩=some u:=by
 have hm:(r.xs.map OpL.op)[i]? =some n.o:=by rw [h.same,An4,hi];rfl
 rw [An4] at hm
 cases hx:r.xs[i]? with
 |none=>rw [hx] at hm;cases hm
 |some x=>
  rw [hx] at hm;injection hm with hm
  obtain ⟨b,off,h1,h2,h3⟩:=Eu (f:=fun x:OpL=>x.cells.toList) (fun _=>rfl) (by omega) h.ops.sl.rd hx;exact ⟨x,b,off,rfl,hm,h.each x (An6 hx),h1,h2,h3⟩
theorem RG.own.uAt {w:World} {base:Nat} {r:RG} (h:r.own w base) {i:Nat} {n:Pn} (hi:r.l[i]? =some n):
  ∃(x:UpL) (b off:Nat),x.xs=Am r.l n.o.past/\x.own w base/\r.uA=some ⟨b,off,none⟩/\b<w.heap.size/\w.cell? ⟨b,off+i,none⟩=some x.cell:=by
 have hm:(r.us.map UpL.xs)[i]? =some (Am r.l n.o.past):=by rw [h.sameU];exact Wx hi
 rw [An4] at hm
 cases hx:r.us[i]? with
 |none=>rw [hx] at hm;cases hm
 |some x=>
  rw [hx] at hm;injection hm with hm
  obtain ⟨b,off,u,h1,h2,h3,h4⟩:=h.ups.sl.rd.at (List.getElem?_eq_some_iff.1 hi).1;rw [An4,hx] at h3;injection h3 with h3
  subst h3;exact ⟨x,b,off,hm,h.eachU x (An6 hx),h1,h2,h4⟩
theorem RG.own.nAt {w:World} {base:Nat} {r:RG} (h:r.own w base) {i:Nat} {n:Pn} (hi:r.l[i]? =some n):
  ∃(x:InL) (b off:Nat),x.bs=Bn r.l.length n.ps/\x.own w base/\r.nA=some ⟨b,off,none⟩/\b<w.heap.size/\w.cell? ⟨b,off+i,none⟩=some x.cell:=by
 have hm:(r.ns.map InL.bs)[i]? =some (Bn r.l.length n.ps):=by rw [h.sameN];exact O8 hi
 rw [An4] at hm
 cases hx:r.ns[i]? with
 |none=>rw [hx] at hm;cases hm
 |some x=>
  rw [hx] at hm;injection hm with hm
  obtain ⟨b,off,u,h1,h2,h3,h4⟩:=h.ins.sl.rd.at (List.getElem?_eq_some_iff.1 hi).1;rw [An4,hx] at h3;injection h3 with h3
  subst h3;exact ⟨x,b,off,hm,h.eachN x (An6 hx),h1,h2,h4⟩
def As (l:List Pn) (id:Id):Int:=match plc l id with|some i=>(i:Int)|none=> -1
theorem Aa8 {l:List Pn} {id:Id} {i:Nat} (h:plc l id=some i):As l id=(i:Int):=by unfold As;rw [h]
theorem Aa9 {l:List Pn} {id:Id} (h:plc l id=none):As l id= -1:=by unfold As;rw [h]
end Oq
namespace Oq
attribute [local go_sem ↓] E8
theorem Ab0 {l:List Pn} {id:Id} (h:∀(j:Nat) (n:Pn),l[j]? =some n->n.id≠id):plc l id=none:=by
 unfold plc;rw [List.findIdx?_eq_none_iff];intro n hn;obtain ⟨j,hj⟩:=Ao4 hn;exact decide_eq_false (h j n hj)
theorem Ab1 {l:List Pn} {id:Id} {k:Nat} {n:Pn} (hk:l[k]? =some n) (he:n.id=id) (h:∀(j:Nat) (n:Pn),j<k->l[j]? =some n->n.id≠id):plc l id=some k:=by
 obtain ⟨hl,rfl⟩:=List.getElem?_eq_some_iff.1 hk;unfold plc;rw [List.findIdx?_eq_some_iff_getElem];refine ⟨hl,decide_eq_true he,fun j hj=> ?_⟩;have:=h j l[j] hj (An3 (by omega));simpa using this
theorem Qq {r:RG} {k:Nat} {n:Pn} (h:r.l[k]? =some n):r.ids[k]? =some n.id:=by
 unfold RG.ids;rw [An4,h];rfl
theorem G7 (base:Nat) (r:RG) (id:Id) (w:World) (h:r.own w base):
  Calls zp 56 #[.agg r.cells,.agg id.V] w fun e w'=>e=.returned (.int .i64 (As r.l id))/\Fr Non w w':=by
 have hr:=h.rdIds;have ai:=h.few;have ag:Hid (∀(k:Nat) (n:Pn),r.l[k]? =some n->r.ids[k]? =some n.id):=fun k n hk=>Qq hk;have ah:Hid ((∀(j:Nat) (n:Pn),j<r.l.length->r.l[j]? =some n->n.id≠id)->As r.l id= -1):=fun hh=>Aa9 (Ab0 (fun j n hj=>hh j n (List.getElem?_eq_some_iff.1 hj).1 hj));have ab:Hid (∀(k:Nat) (n:Pn),r.l[k]? =some n->n.id=id->(∀(j:Nat) (n:Pn),j<k->r.l[j]? =some n->n.id≠id)->As r.l id=(k:Int)):=fun k n h1 h2 h3=>Aa8 (Ab1 h1 h2 h3);have bg:=(Blk.new w 32 r.cells).alloc (.cells id.V 38);have bi:=Blk.new (w.alloc (.cells r.cells 32)) 38 id.V;rw [Ao3] at bi;have f0:Fr Non w ((w.alloc (.cells r.cells 32)).alloc (.cells id.V 38)):=((Fr.refl Non w).alloc _).alloc _;have g2:Hid (r.cells[2]? =some (.slice r.iA r.l.length r.iC)):=rfl;have hm:=J2;clear h;generalize As r.l id=R at*;generalize hids:r.ids=ids at*;generalize hl:r.l=l at*;generalize r.iA=A at*;generalize r.iC=C at*;generalize r.cells=CS at*;go_enter func56,ntmps56;go_wp2
 go_loopw [5] (fun v wr=>∃k:Nat,v=.int .i64 (k:Int)/\k<=l.length/\Hid (∀(j:Nat) (n:Pn),j<k->l[j]? =some n->n.id≠id)/\Fr Non ((w.alloc (.cells CS 32)).alloc (.cells id.V 38)) wr) (fun v _=>l.length-(intOf v).toNat)
 case atStart=>exact ⟨0,rfl,by omega,fun j n hj=>absurd hj (Nat.not_lt_zero _),Fr.refl _ _⟩
 case round=>
  obtain ⟨k,rfl,hk,hh,hf⟩:=hrel;have af:=bg.fr hf zq;have d2:=(af.cell 2).trans g2.out;have ac:Fr Non w wr:=f0.trans hf zr
  by_cases hlt:k<l.length
  ·
   obtain ⟨n,hn⟩:∃n,l[k]? =some n:=⟨_,An3 hlt⟩;obtain ⟨b,aj,rfl,ak,k0,k1,k2⟩:=Id.at (hr.fr ac zr) (ag.out k n hn);have ad:=bi.fr hf zq;have c0:=ad.cell 0;have c1:=ad.cell 1;have c2:=ad.cell 2;have aa:=Id.eq_iff n.id id
   by_cases he:Id.eq n.id id=true
   ·
    have hR:Hid (R=(k:Int)):=ab.out k n hn (aa.1 he) hh.out;clear hn ag ab ah aa bg bi f0 af ad hids hl;generalize n.id=y at*;generalize l.length=N at*;obtain ⟨i1,i2,i3⟩:=ix k N
    go_wp2
    go_quiet (fail)
    go_wp2
    go_ret
    exact ⟨by rw [hR.out];rfl,ac.drewN _⟩
   ·
    have he:=Ao5 _▸he
    have ae:Hid (∀(j:Nat) (n:Pn),j<k+1->l[j]? =some n->n.id≠id):=by
     intro j m hj hm
     rcases Nat.lt_or_ge j k with h1|h1
     · exact hh.out j m h1 hm
     ·
      have e:j=k:=by omega
      subst e;rw [hn] at hm;injection hm with hm
      subst hm;intro e;rw [aa.2 e] at he
      cases he
    clear hn ag ab ah aa af ad hids hl hh;generalize n.id=y at*;generalize hN:l.length=N at*;obtain ⟨i1,i2,i3⟩:=ix k N
    clear hN;go_wp2
    go_quiet (fail)
    go_wp2;go_roundw
    case rel=>exact ⟨k+1,by go_num,by omega,ae,hf.drewN _⟩
    case measure=>simp [intOf];omega
  ·
   obtain rfl:k=l.length:=by omega
   have hR:Hid (R= -1):=ah.out hh.out;go_wp2
   go_ret
   exact ⟨by rw [hR.out];rfl,ac⟩
end Oq
namespace Oq
attribute [local go_sem] An8 An9
theorem Et (v:Value):Instr.loadAt 32 v=ldS 32 v:=rfl
attribute [local go_sem ↓] Et E8
theorem Cz:(zp.info? 32).map (·.size)=some 5:=by kernel_rfl
theorem Qr (r:RG):r.ids.length=r.l.length:=by simp [RG.ids]
theorem Lf (base:Nat) (r:RG) (w:World) (h:r.own w base):Calls zp 22 #[.agg r.cells] w (SortPost r.ids r.l.length w):=by
 have hr:=h.rdIds;have hfew:=h.few;have bg:=Blk.new w 32 r.cells;have f0:Fr Non w (w.alloc (.cells r.cells 32)):=(Fr.refl Non w).alloc _;have g2:r.cells[2]? =some (.slice r.iA r.l.length r.iC):=rfl;have c2:=(bg.cell 2).trans g2;have k:=lh (Fm w.heap.size r.l.length r.iC r.iA r.ids (w.alloc (.cells r.cells 32)) (Qr r) (hr.fr f0 zr) (by omega));unfold SortPost at k ⊢;clear bg g2 h;generalize r.cells=CS at*;generalize An r.ids=IS at*;go_enter func22,ntmps22;go_wp2_with fail;refine k.out.mono ?_;rintro _ w1 ⟨A,c,rfl,o1,f1⟩;go_wp2
 go_ret
 exact ⟨A,c,rfl,o1.lower f0.size,f0.trans f1 zr⟩
def Cc (ids:List Id) (d:Int) (k:Nat):Int:=(ids.take k).foldl (fun n x=>if x.b==d then max n x.s else n) 0
theorem Qs {ids:List Id} {d:Int} {k:Nat} {x:Id} (h:ids[k]? =some x):Cc ids d (k+1)=if x.b==d then max (Cc ids d k) x.s else Cc ids d k:=by
 unfold Cc;rw [Dz h,List.foldl_append];rfl
theorem Qt {ids:List Id} {d m:Int} (hm:0<=m) (h:∀x∈ids,x.s<=m) (k:Nat):0<=Cc ids d k/\Cc ids d k<=m:=by
 induction k with
 |zero=>exact ⟨Ao0 _,hm⟩
 |succ k ih=>
  cases hx:ids[k]? with
  |none=>
   have:Cc ids d (k+1)=Cc ids d k:=by
    unfold Cc;rw [An5 (by have:=List.getElem?_eq_none_iff.1 hx;omega),An5 (by have:=List.getElem?_eq_none_iff.1 hx;omega)]
   rw [this];exact ih
  |some x=>
   rw [Qs hx];have:=h x (An6 hx)
   split<;>omega
theorem Ab2 (g:Array Value) (B n c:Nat) (A:Option Addr) (ids:List Id) (d:Int) (w:World) (hn:Hid (ids.length=n)) (hr:Rd w B 3 A n (ids.flatMap Id.cells)) (hnm:n<=1000000) (hs:∀x∈ids,x.s<=2147483647):
  Calls zp 93 #[.agg g,.slice A n c,.int .i64 d] w fun e w'=>e=.returned (.int .i64 (Cc ids d n+1))/\Fr Non w w':=by
 have f0:Fr Non w (w.alloc (.cells g 32)):=(Fr.refl Non w).alloc _;have hr0:=hr.fr f0 zr;have hbd:=lh (fun k=>Qt (ids:=ids) (d:=d) (m:=2147483647) (by omega) hs k);clear hs hr;go_enter func93,ntmps93;go_wp2;generalize w.alloc (.cells g 32)=w0 at*
 go_loopw [7,8] (fun m v wr=>∃k:Nat,v=.int .i64 (k:Int)/\m=.int .i64 (Cc ids d k)/\k<=n/\Fr Non w0 wr) (fun _ v _=>n-(intOf v).toNat)
 case atStart=>exact ⟨0,rfl,rfl,by omega,Fr.refl _ _⟩
 case round=>
  obtain ⟨k,rfl,rfl,hk,hf⟩:=hrel;obtain ⟨b1,b2⟩:=hbd.out k
  by_cases hlt:k<n
  ·
   obtain ⟨y,hy⟩:∃y,ids[k]? =some y:=⟨_,An3 (by rw [hn.out];exact hlt)⟩;obtain ⟨b,off,rfl,hbB,k0,k1,k2⟩:=Id.at (hr0.fr hf zr) hy;have hsn:=lh (Qs (d:=d) hy);clear hy;obtain ⟨i1,i2,i3⟩:=ix k n
   rcases zb (y.b==d) with he|he
   ·
    have hsn':Hid (Cc ids d (k+1)=max (Cc ids d k) y.s):=by show _=_;rw [hsn.out,he];rfl
    clear hsn;generalize Cc ids d k=M at*;go_wp2
    all_goals
     go_roundw
     case rel=>exact ⟨k+1,by go_num,by rw [hsn'.out];first|done|(congr 1<;>omega),by omega,hf⟩
     case measure=>simp [intOf];omega
   ·
    have hsn':Hid (Cc ids d (k+1)=Cc ids d k):=by show _=_;rw [hsn.out,he];rfl
    clear hsn;generalize Cc ids d k=M at*;go_wp2;go_roundw
    case rel=>exact ⟨k+1,by go_num,by rw [hsn'.out],by omega,hf⟩
    case measure=>simp [intOf];omega
  ·
   obtain rfl:k=n:=by omega
   have e1:=iw (Cc ids d k+1);obtain ⟨M,hM⟩:=Aa (Cc ids d k);rw [hM.out] at e1 b1 b2;rw [hM.out];go_wp2
   go_ret
   exact ⟨by first|(rw [hM.out];rfl)|rfl,f0.trans hf zr⟩
theorem Ab3 (base:Nat) (r:RG) (B n c:Nat) (A:Option Addr) (ids:List Id) (w:World) (h:r.own w base) (hn:Hid (ids.length=n)) (hr:Rd w B 3 A n (ids.flatMap Id.cells)) (hnm:n<=1000000):
  Calls zp 94 #[.agg r.cells,.slice A n c] w fun e w'=>e=.returned (.int .i64 (late r.l ids))/\Fr Non w w':=by
 have aw:=h.few;have bg:=Blk.new w 32 r.cells;have f0:Fr Non w (w.alloc (.cells r.cells 32)):=(Fr.refl Non w).alloc _;have g1:Hid (r.cells[1]? =some (.slice r.lA r.l.length r.lC)):=rfl;have a2:=hr.fr f0 zr;have kp:=lh (fun (id:Id) (w':World) (hf:Fr Non w w')=>G7 base r id w' (h.non hf))
 have aj:Hid (∀i,i<r.l.length->∃(m:Pn) (b aa:Nat),r.l[i]? =some m/\r.lA=some ⟨b,aa,none⟩/\cI w b (aa+i*27+3) m.o.at_):=by
  intro i hi;obtain ⟨y,b,aa,_,h1,_,h3,_,h4⟩:=h.xAt (An3 hi);exact ⟨_,b,aa,An3 hi,h3,by rw [<- h1];exact h4 3 (by omega) _ rfl⟩
 have av:Hid (∀k,0<=late r.l (ids.take k)):=by
  intro k
  have mono:∀(l:List Id) (t:Int),0<=t->0<=l.foldl (fun t id=>max t (Ca r.l id)) t:=by
   intro l
   induction l with
   |nil=>intro t ht;exact ht
   |cons y q ih=>intro t ht;exact ih _ (by dsimp only;omega)
  exact mono _ 0 (Ao0 _)
 have hl:=Bb (P:=zp) w.heap.size 32 underlying32 rfl (cs:=r.cells) Cz
 have ag:Hid (∀id i,As r.l id=(i:Int)->0<=(i:Int)->∀m,r.l[i.toNat]? =some m->Ca r.l id=m.o.at_):=by
  intro id i e hi m hm;unfold As at e
  cases hp:plc r.l id with
  |none=>rw [hp] at e;dsimp only at e;omega
  |some p=>
   rw [hp] at e;dsimp only at e;exact Ie hp (by rw [show p=i.toNat by omega];exact hm)
 have ae:Hid (∀id,-1<=As r.l id/\As r.l id<r.l.length):=by
  intro id;unfold As
  cases hp:plc r.l id with
  |none=>exact ⟨Ao0 _,by dsimp only;omega⟩
  |some p=>have:=Dp hp;exact ⟨by dsimp only;omega,by dsimp only;omega⟩
 have ah:Hid (∀id,As r.l id<0->Ca r.l id=0):=by
  intro id e;unfold As at e
  cases hp:plc r.l id with
  |none=>unfold Ca;rw [hp]
  |some p=>rw [hp] at e;dsimp only at e;omega
 clear h hr;obtain ⟨N,hN⟩:=Aa r.l.length;rw [hN.out] at g1 aj ae aw;generalize r.lA=LA at*;generalize r.lC=LC at*;generalize r.cells=CS at*;generalize r.l=l at*;go_enter func94,ntmps94;go_wp2;generalize w.alloc (.cells CS 32)=w0 at*
 go_loopw [5,6] (fun m v wr=>∃k:Nat,v=.int .i64 (k:Int)/\m=.int .i64 (late l (ids.take k))/\k<=n/\Fr Non w0 wr) (fun _ v _=>n-(intOf v).toNat)
 case atStart=>exact ⟨0,rfl,rfl,by omega,Fr.refl _ _⟩
 case round=>
  obtain ⟨k,rfl,rfl,hk,hf⟩:=hrel
  by_cases hlt:k<n
  ·
   obtain ⟨y,hy⟩:∃y,ids[k]? =some y:=⟨_,An3 (by rw [hn.out];exact hlt)⟩;obtain ⟨b,aa,rfl,a5,k0,k1,k2⟩:=Id.at (a2.fr hf zr) hy;have ai:=lh (Ow l ids k hy);have a4:=av.out k;clear hy;obtain ⟨i1,i2,i3⟩:=ix k n
   have ax:=(bg.fr hf zq).drew;have au:Fr Non w wr.drew:=(f0.trans hf zr).drew;have K0:cI wr.drew b (aa+k*3) y.b:=k0;have K1:cI wr.drew b (aa+k*3+1) y.s:=k1;have K2:cU wr.drew b (aa+k*3+2) y.u:=k2;have a0:=lh (kp.out y wr.drew au);obtain ⟨p1,p2⟩:=ae.out y;have ak:=lh (ag.out y);have al:=lh (ah.out y);clear kp ag ah ae;generalize As l y=P at*;go_upto_region 5 with (fail)
   have B0:=ax;have ac:=K0;have ad:=K1;have ab:=K2;have az:=au;clear ax K0 K1 K2 k0 k1 k2 au;refine wp_region_held_drew (S:=fun w'=>Blk w' w.heap.size 32 CS/\cI w' b (aa+k*3) y.b/\cI w' b (aa+k*3+1) y.s/\cU w' b (aa+k*3+2) y.u) (by kernel_rfl) ⟨B0,ac,ad,ab⟩ (fun hHeld=> ?_);clear hHeld;have uu:=aI B0 (aI ac (aI ad ab));refine tkH 0 uu (h:=tkH 1 uu (h:=tkH 2 uu (h:=tkH 3 uu (h:=tkH 4 uu (h:=?_)))));clear uu;simp only [zl];refine oG 5 (fun K hK=> ?_);go_simp;go_wp2_with (go_at_call 56;(with_reducible refine (a0.out).mono ?_);rintro _ v1 ⟨rfl,af⟩;have B1:=B0.fr af zq;obtain ⟨ao,ar,ap⟩:=zk3 af ac ad ab;have a3:=az.trans af zr);refine hK.out _ _ ⟨B1,ao,ar,ap⟩ (fun hZ=> ?_);clear hZ hK K;try simp only [Ac,zl]
   refine tkH 6 ⟨B1,ao,ar,ap⟩ (h:=?_);simp only [zl];refine oD ?_;go_simp;clear a0 ac ad ab ao ar ap B0 az;have ay:Fr Non w0 v1:=hf.drew.trans af zr;clear hf af
   rcases Int.lt_or_le P 0 with hP|hP
   ·
    have t:decide (P>=0)=false:=decide_eq_false (by omega);have t2:decide (0<=P)=false:=decide_eq_false (by omega)
    have aq:Hid (late l (ids.take k)=late l (ids.take (k+1))):=by
     show _=_;rw [ai.out,al.out hP];omega
    clear ai al ak aj av;go_wp2;go_roundw
    case rel=>exact ⟨k+1,by go_num,by rw [aq.out],by omega,ay⟩
    case measure=>simp [intOf];omega
   ·
    obtain ⟨p,rfl⟩:∃p:Nat,P=(p:Int):=⟨P.toNat,by omega⟩;have t:decide ((p:Int)>=0)=true:=decide_eq_true (by omega);have t2:decide (0<=(p:Int))=true:=decide_eq_true (by omega);obtain ⟨m,b2,a1,hm,rfl,cm⟩:=aj.out p (by omega)
    have aq:Hid (late l (ids.take (k+1))=max (late l (ids.take k)) m.o.at_):=by
     show _=_;rw [ai.out,ak.out p rfl (by omega) m (by rw [Int.toNat_natCast];exact hm)]
    have c1:=(B1.cell 1).trans g1.out;have a6:=a3.cell cm zq;have p3:(p:Int)<N:=p2;have p4:(p:Int).toNat=p:=by omega
    have p5:(0:Int)<=p:=by omega
    clear ai al ak aj av hm cm p1 p2 B1;generalize m.o.at_=ma at*;generalize late l (ids.take k)=lk at*;go_wp2
    all_goals
     go_roundw
     case rel=>exact ⟨k+1,by go_num,by rw [aq.out];first|done|(congr 1<;>omega),by omega,ay⟩
     case measure=>simp [intOf];omega
  ·
   obtain rfl:k=n:=by omega
   have hR:Hid (late l (ids.take k)=late l ids):=by show _=_;rw [An5 (by rw [hn.out];omega)]
   rw [hR.out];go_wp2
   go_ret
   exact ⟨rfl,f0.trans hf zr⟩
end Oq
namespace Oq
attribute [local go_sem] An8 An9
attribute [local go_sem ↓] E8
def Co (l:List Id) (w:World) (e:Ending) (w':World):Prop:=∃A c,e=.returned (.slice A l.length c)/\Own w' w.heap.size 38 3 A l.length c (l.flatMap Id.cells)/\Fr Non w w'
theorem SortPost.ids {l:List Id} {n:Nat} {w:World} {e:Ending} {w':World} (h:SortPost l n w e w') (hn:(An l).length=n):Co (An l) w e w':=by
 obtain ⟨A,c,h1,h2,h3⟩:=h;subst hn;exact ⟨A,c,h1,h2,h3⟩
theorem Ab4 {l l':List Id} {k:Nat} {y z:Id} (h:l[k]? =some y) (h':l'[k]? =some z) (hk:l.take k=l'.take k) (e:y=z):l.take (k+1)=l'.take (k+1):=by
 rw [Ao6,Ao6,hk,h,h',e]
theorem Ab5 (B n c B' m c':Nat) (A A':Option Addr) (l l':List Id) (w:World) (hn:Hid (l.length=n)) (hm:Hid (l'.length=m)) (hr:Rd w B 3 A n (l.flatMap Id.cells)) (hr':Rd w B' 3 A' m (l'.flatMap Id.cells)) (hnm:n<=1000000) (R:Bool) (hR:R=true<->l=l'):
  Calls zp 20 #[.slice A n c,.slice A' m c'] w (Ae R w):=by
 have hRf:Hid (l≠l'->R=false):=fun h=>by cases R with|false=>rfl|true=>exact absurd (hR.1 rfl) h
 have hRt:Hid (l=l'->R=true):=hR.2;clear hR
 by_cases hne:n=m
 ·
  subst hne;have t:((n:Int) !=(n:Int))=false:=by simp
  go_enter func20,ntmps20;go_wp2
  go_loopw [5] (fun v wr=>∃k:Nat,v=.int .i64 (k:Int)/\k<=n/\Hid (l.take k=l'.take k)/\Fr Non w wr) (fun v _=>n-(intOf v).toNat)
  case atStart=>exact ⟨0,rfl,by omega,rfl,Fr.refl _ _⟩
  case round=>
   obtain ⟨k,rfl,hk,hh,hf⟩:=hrel
   by_cases hlt:k<n
   ·
    obtain ⟨y,hy⟩:∃y,l[k]? =some y:=⟨_,An3 (by rw [hn.out];exact hlt)⟩;obtain ⟨z,hz⟩:∃y,l'[k]? =some y:=⟨_,An3 (by rw [hm.out];exact hlt)⟩;obtain ⟨b,off,rfl,hbB,k0,k1,k2⟩:=Id.at (hr.fr hf zr) hy;obtain ⟨b',off',rfl,hbB',g0,g1,g2⟩:=Id.at (hr'.fr hf zr) hz;have hcase:=Id.eq_iff y z;have hsn:Hid (y=z->l.take (k+1)=l'.take (k+1)):=Ab4 hy hz hh.out;have hno:Hid (y≠z->R=false):=fun e=>hRf.out (fun e'=>by rw [e',hz] at hy;injection hy with hy;exact e hy.symm);clear hy hz;obtain ⟨i1,i2,i3⟩:=ix k n
    have hm:=J2
    by_cases he:Id.eq y z=true
    ·
     have hfin:=lh (hsn.out (hcase.1 he));clear hsn hno hcase;go_wp2
     go_quiet (fail)
     go_wp2;go_roundw
     case rel=>exact ⟨k+1,by go_num,by omega,hfin,hf.drewN _⟩
     case measure=>simp [intOf];omega
    ·
     have hfin:=lh (hno.out (fun e=>he (hcase.2 e)));have he:=Ao5 _▸he;clear hsn hno hcase;go_wp2
     go_quiet (fail)
     go_wp2
     go_ret
     exact ⟨by rw [hfin.out];rfl,hf.drewN _⟩
   ·
    obtain rfl:k=n:=by omega
    have hfin:Hid (R=true):=by
     have h:=hh.out;rw [An5 (by rw [hn.out];omega),An5 (by rw [hm.out];omega)] at h;exact hRt.out h
    go_wp2
    go_ret
    exact ⟨by rw [hfin.out];rfl,hf⟩
 ·
  have t:((n:Int) !=(m:Int))=true:=by simp;omega
  have hfin:Hid (R=false):=hRf.out (fun e=>hne (by rw [<- hn.out,<- hm.out,e]));go_enter func20,ntmps20;go_wp2
  go_ret
  exact ⟨by rw [hfin.out];rfl,Fr.refl _ _⟩
end Oq
namespace Oq
attribute [local go_sem] An8 An9
attribute [local go_sem ↓] Et
def Cj (l:List Pn) (p:Nat->Bool) (k:Nat):List Id:=(List.range k).filterMap (fun i=>if p i then l[i]?.map Pn.id else none)
theorem Qu (l:List Pn) (p:Nat->Bool) (k:Nat) {n:Pn} (h:l[k]? =some n):Cj l p (k+1)=Cj l p k++(if p k then [n.id] else []):=by
 unfold Cj;rw [List.range_succ,List.filterMap_append];congr 1
 cases hp:p k<;>simp [hp,h]
theorem Qw (l:List Pn) (p:Nat->Bool) (k:Nat):(Cj l p k).length<=k:=by
 unfold Cj;have h:=List.length_filterMap_le (fun i=>if p i then l[i]?.map Pn.id else none) (List.range k);simpa using h
theorem E0 (l:List Id):(An l).length=l.length:=(C3 l).length_eq
theorem Ab6 {l:List Pn} {id:Id} (h:As l id<0) (q:Nat):upB l id q=false:=by
 unfold As at h;unfold upB
 cases hp:plc l id with
 |none=>rfl
 |some p=>rw [hp] at h;dsimp only at h;omega
theorem Ab7 {l:List Pn} {id:Id} {p:Nat} {m:Pn} (h:As l id=(p:Int)) (hm:l[p]? =some m) (q:Nat):upB l id q=m.ps q:=by
 unfold As at h;unfold upB
 cases hp:plc l id with
 |none=>rw [hp] at h;dsimp only at h;omega
 |some i=>
  rw [hp] at h;dsimp only at h ⊢;have e:i=p:=by omega
  subst e;rw [hm];rfl
theorem Qx (l:List Pn) (id:Id): -1<=As l id/\As l id<l.length:=by
 unfold As
 cases hp:plc l id with
 |none=>exact ⟨Ao0 _,by dsimp only;omega⟩
 |some p=>have:=Dp hp;exact ⟨by dsimp only;omega,by dsimp only;omega⟩
theorem RG.own.inAt {w:World} {base:Nat} {r:RG} (h:r.own w base) {p:Nat} (hp:p<r.l.length):
  ∃(m:Pn) (A2:Option Addr) (c2 b off:Nat),r.l[p]? =some m/\r.nA=some ⟨b,off,none⟩/\w.cell? ⟨b,off+p,none⟩=some (.slice A2 r.l.length c2)/\
   ∀i,i<r.l.length->∃b2 off2,A2=some ⟨b2,off2,none⟩/\w.cell? ⟨b2,off2+i,none⟩=some (.bool (m.ps i)):=by
 obtain ⟨x,b,off,h1,h2,h3,_,h4⟩:=h.nAt (An3 hp);have hlen:x.bs.length=r.l.length:=by rw [h1,Fw]
 have h4':cS w b (off+p) x.A x.bs.length x.c:=h4;rw [hlen] at h4';refine ⟨_,x.A,x.c,b,off,An3 hp,h3,h4',fun i hi=> ?_⟩;have hrd:Rd w w.heap.size 1 x.A x.bs.length (x.bs.map Value.bool):=h2.sl.rd;obtain ⟨b2,off2,u,e1,_,e2,e3⟩:=hrd.at (k:=i) (by omega);rw [An4,h1,O6 hi] at e2;injection e2 with e2
 subst e2;exact ⟨b2,off2,e1,e3⟩
theorem RG.own.idAt {w:World} {base:Nat} {r:RG} (h:r.own w base) {i:Nat} (hi:i<r.l.length):
  ∃(m:Pn) (b off:Nat),r.l[i]? =some m/\r.iA=some ⟨b,off,none⟩/\w.cell? ⟨b,off+i*3,none⟩=some (.int .i64 m.id.b)/\w.cell? ⟨b,off+i*3+1,none⟩=some (.int .i64 m.id.s)/\w.cell? ⟨b,off+i*3+2,none⟩=some (.int .u64 (m.id.u:Int)):=by
 obtain ⟨b,off,h1,_,h2,h3,h4⟩:=Id.at h.rdIds (Qq (An3 hi));exact ⟨_,b,off,An3 hi,h1,h2,h3,h4⟩
theorem Qy (base:Nat) (r:RG) (B n c:Nat) (A:Option Addr) (ids:List Id) (w:World) (h:r.own w base) (hn:Hid (ids.length=n)) (hr:Rd w B 3 A n (ids.flatMap Id.cells)) (hnm:n<=1000000):
  Calls zp 135 #[.agg r.cells,.slice A n c] w (Co (An (Cj r.l (Av r.l ids) r.l.length)) w):=by
 have bh:=h.few;have bg:=Blk.new w 32 r.cells;have f0:Fr Non w (w.alloc (.cells r.cells 32)):=(Fr.refl Non w).alloc _;have g1:Hid (r.cells[1]? =some (.slice r.lA r.l.length r.lC)):=rfl;have g2:Hid (r.cells[2]? =some (.slice r.iA r.l.length r.iC)):=rfl;have g4:Hid (r.cells[4]? =some (.slice r.nA r.l.length r.nC)):=rfl;have kp:=lh (fun (id:Id) (w':World) (hf:Fr Non w w')=>G7 base r id w' (h.non hf));have hl:=Bb (P:=zp) w.heap.size 32 underlying32 rfl (cs:=r.cells) Cz;have ao:=lh (fun (p:Nat) (hp:p<r.l.length)=>h.inAt hp);have hid:=lh (fun (p:Nat) (hp:p<r.l.length)=>h.idAt hp);have ab:Hid (∀id,-1<=As r.l id/\As r.l id<r.l.length):=fun id=>Qx r.l id;have ad:Hid (∀id,As r.l id<0->∀q,upB r.l id q=false):=fun id h q=>Ab6 h q;have ac:Hid (∀id (p:Nat) m,As r.l id=(p:Int)->r.l[p]? =some m->∀q,upB r.l id q=m.ps q):=fun id p m h1 h2 q=>Ab7 h1 h2 q;have a5:Hid (∀k m,r.l[k]? =some m->Cj r.l (Av r.l ids) (k+1)=Cj r.l (Av r.l ids) k++(if Av r.l ids k then [m.id] else [])):=fun k m hm=>Qu r.l _ k hm;have a3:Hid (∀k,(Cj r.l (Av r.l ids) k).length<=k):=fun k=>Qw _ _ k;have a4:Hid (∀k y,ids[k]? =some y->Av r.l (ids.take (k+1))=fun q=>Av r.l (ids.take k) q||upB r.l y q):=fun k y hy=>Ov r.l ids k hy;clear h;generalize r.lA=LA at*;generalize r.lC=LC at*;generalize r.iA=IA at*;generalize r.iC=IC at*;generalize r.nA=NA at*;generalize r.nC=NC at*;generalize r.cells=CS at*;generalize r.l=l at*;obtain ⟨N,hN⟩:=Aa l.length;rw [hN.out] at g1 g2 g4 ao hid ab bh ⊢;go_enter func135,ntmps135;go_upto_region 1 with (fail)
 generalize w.alloc (.cells CS 32)=w0 at*;go_wp2
 go_loopw [5,6] (fun s v wr=>∃(i:Nat) (Ax:Option Addr) (cx:Nat) (xs:List Id),v=.int .i64 (i:Int)/\s=.slice Ax xs.length cx/\i<=N/\Hid (xs=Cj l (Av l ids) i)/\Own wr w0.heap.size 38 3 Ax xs.length cx (xs.flatMap Id.cells)/\Fr Non w0 wr) (fun _ v _=>N-(intOf v).toNat)
 case atStart=>exact ⟨0,none,0,[],rfl,rfl,by omega,rfl,Own.nil _ _ _ _,Fr.refl _ _⟩
 case round=>
  obtain ⟨i,Ax,cx,xs,rfl,rfl,hi,au,af,hf⟩:=hrel;have bl:Fr Non w wr:=f0.trans hf zr;have q1:=((bg.fr hf zq).cell 1).trans g1.out;have a9:=af.row;have bz:xs.length<=i:=by rw [au.out];exact a3.out i
  by_cases hlt:i<N
  ·
   obtain ⟨j1,j2,j3⟩:=ix i N
   obtain ⟨wo,bu⟩:∃wo:World,wo=wr:=⟨_,rfl⟩;subst bu;go_wp2;clear q1
   go_loopw [7,8] (fun s v wi=>∃k:Nat,v=.int .i64 (k:Int)/\s=.bool (Av l (ids.take k) i)/\k<=n/\Fr Non wo wi) (fun _ v _=>n-(intOf v).toNat)
   case atStart=>exact ⟨0,rfl,rfl,by omega,Fr.refl _ _⟩
   case round=>
    obtain ⟨k,rfl,rfl,hk,ay⟩:=hrel;have aw:Fr Non w0 wr:=hf.trans ay zr;have av:Fr Non w wr:=f0.trans aw zr
    by_cases hkn:k<n
    ·
     obtain ⟨y,hy⟩:∃y,ids[k]? =some y:=⟨_,An3 (by rw [hn.out];exact hkn)⟩;obtain ⟨b,ax,rfl,b0,k0,k1,k2⟩:=Id.at (hr.fr av zr) hy;obtain ⟨i1,i2,i3⟩:=ix k n
     have ap:Hid (Av l (ids.take (k+1)) i=(Av l (ids.take k) i||upB l y i)):=by show _=_;rw [a4.out k y hy]
     have bm:=lh (kp.out y wr.drew av.drew);obtain ⟨p1,p2⟩:=ab.out y;have a2:Hid (As l y<0->upB l y i=false):=fun e=>ad.out y e i;have a7:Hid (∀(p:Nat) m,As l y=(p:Int)->l[p]? =some m->upB l y i=m.ps i):=fun p m h1 h2=>ac.out y p m h1 h2 i;have B0:=(bg.fr aw zq).drew;have ak:cI wr.drew b (ax+k*3) y.b:=k0;have al:cI wr.drew b (ax+k*3+1) y.s:=k1;have ah:cU wr.drew b (ax+k*3+2) y.u:=k2;have bk:Fr Non w wr.drew:=av.drew;clear hy kp ab ad ac a4 a5 a3 k0 k1 k2 hid;obtain ⟨a1,a6⟩:=Aa (Av l (ids.take (k+1)) i);rw [a6.out] at ap;generalize Av l (ids.take k) i=a0 at*;generalize upB l y i=up at*;generalize As l y=P at*;go_upto_region 9 with (fail)
     refine wp_region_held_drew (S:=fun w'=>Blk w' w.heap.size 32 CS/\cI w' b (ax+k*3) y.b/\cI w' b (ax+k*3+1) y.s/\cU w' b (ax+k*3+2) y.u) (by kernel_rfl) ⟨B0,ak,al,ah⟩ (fun hHeld=> ?_);clear hHeld;have uu:=aI B0 (aI ak (aI al ah));refine tkH 0 uu (h:=tkH 1 uu (h:=tkH 2 uu (h:=tkH 3 uu (h:=tkH 4 uu (h:=?_)))));clear uu;simp only [zl];refine oG 5 (fun K hK=> ?_);go_simp;go_wp2_with (go_at_call 56;(with_reducible refine (bm.out).mono ?_);rintro _ v1 ⟨rfl,ar⟩;have B1:=B0.fr ar zq;obtain ⟨bc,be,bd⟩:=zk3 ar ak al ah;have bn:=bk.trans ar zr);refine hK.out _ _ ⟨B1,bc,be,bd⟩ (fun hZ=> ?_);clear hZ hK K;try simp only [Ac,zl]
     refine tkH 6 ⟨B1,bc,be,bd⟩ (h:=?_);simp only [zl];refine oD ?_;go_simp;clear bm ak al ah bc be bd B0 bk;have bi:Fr Non wo v1:=ay.drew.trans ar zr;have q4:=(B1.cell 4).trans g4.out;clear ay ar B1
     cases a0
     case true=>
      have aa:Hid (a1=true):=by show _=_;rw [ap.out];rfl
      clear ap a2 a7 ao;go_wp2;go_roundw
      case rel=>exact ⟨k+1,by go_num,by rw [a6.out,aa.out],by omega,bi⟩
      case measure=>simp [intOf];omega
     case false=>
      rcases Int.lt_or_le P 0 with hP|hP
      ·
       have t:decide (P>=0)=false:=decide_eq_false (by omega);have t2:decide (0<=P)=false:=decide_eq_false (by omega);have aa:Hid (a1=false):=by show _=_;rw [ap.out,a2.out hP];rfl
       clear ap a2 a7 ao;go_wp2;go_roundw
       case rel=>exact ⟨k+1,by go_num,by rw [a6.out,aa.out],by omega,bi⟩
       case measure=>simp [intOf];omega
      ·
       obtain ⟨p,rfl⟩:∃p:Nat,P=(p:Int):=⟨P.toNat,by omega⟩;have t:decide ((p:Int)>=0)=true:=decide_eq_true (by omega);have t2:decide (0<=(p:Int))=true:=decide_eq_true (by omega);obtain ⟨m,A2,c2,b2,ba,hm,rfl,cm,aj⟩:=ao.out p (by omega);obtain ⟨b3,bv,rfl,bp⟩:=aj i hlt;have aa:Hid (a1=m.ps i):=by show _=_;rw [ap.out,a7.out p m rfl hm];rfl
       obtain ⟨b4,bx⟩:=zk2 bn cm bp;have p3:(p:Int)<N:=p2;have p4:(p:Int).toNat=p:=by omega
       have p5:(0:Int)<=p:=by omega
       clear ap a2 a7 ao hm cm bp p1 p2 aj;generalize m.ps i=mi at*;go_wp2
       all_goals
        go_roundw
        case rel=>exact ⟨k+1,by go_num,by rw [a6.out,aa.out],by omega,bi⟩
        case measure=>simp [intOf];omega
    ·
     obtain rfl:k=n:=by omega
     have hR:Hid (Av l (ids.take k) i=Av l ids i):=by show _=_;rw [An5 (by rw [hn.out];omega)]
     obtain ⟨m,b2,ba,hm,rfl,d0,d1,d2⟩:=hid.out i hlt;have ae:=lh (a5.out i m hm);have q2:=((bg.fr aw zq).cell 2).trans g2.out;obtain ⟨e0,e1,e2⟩:=zk3 av d0 d1 d2;have O1:=af.fr ay zr;rw [hR.out];clear hm a5 a3 a4 ad ac ab ao hid kp d0 d1 d2 ay;generalize Av l ids i=ai at*;generalize m.id=z at*
     cases ai
     case true=>
      have aq:Hid (xs++[z]=Cj l (Av l ids) (i+1)):=by show _=_;rw [ae.out,<- au.out];rfl
      have bf:=O1.alloc (.cells z.V 38);have br:=aw.alloc (.cells z.V 38);have bq:=Blk.new wr 38 z.V;have b1:=aw.size;clear ae au hr bg;go_wp2_with (at_builtin;go_loud (refine Aw (base:=w0.heap.size) (.tmp 46) (.tmp 52) 28 rfl rfl rfl rfl C1 bf (Rd.blk (n:=1) (size:=3) bq rfl) (by simp [Value.oneCell']) (by omega) (by omega) (by rw [Ao3];omega) ?_);intro A2 bo w4 a8 bt bs)
      have bb:Own w4 w0.heap.size 38 3 A2 (xs++[z]).length bo ((xs++[z]).flatMap Id.cells):=by
       rw [An7,Ao7];exact a8
      have bw:Fr Non w0 w4:=br.trans bt (fun j hj e=>by have h5:=(a9 j e).1;omega);go_roundw
      case rel=>exact ⟨i+1,A2,bo,xs++[z],by go_num,by rw [An7];rfl,by omega,aq,bb,bw⟩
      case measure=>simp [intOf];omega
     case false=>
      have aq:Hid (xs=Cj l (Av l ids) (i+1)):=by show _=_;rw [ae.out,<- au.out];simp
      clear ae au hr bg;go_wp2;go_roundw
      case rel=>exact ⟨i+1,Ax,cx,xs,by go_num,rfl,by omega,aq,O1,aw⟩
      case measure=>simp [intOf];omega
  ·
   obtain rfl:i=N:=by omega
   have ks:=lh (Fm wr.heap.size xs.length cx Ax xs wr rfl af.rd (by omega))
   have az:Hid (∀e w',SortPost xs xs.length wr e w'->Co (An (Cj l (Av l ids) i)) w e w'):=by
    rintro e w' ⟨A5,c5,h1,h2,h3⟩;have bj:(An xs).length=xs.length:=E0 xs;rw [<- au.out];exact ⟨A5,c5,by rw [bj];exact h1,by rw [bj];exact h2.lower bl.size,bl.trans h3 zr⟩
   generalize Co (An (Cj l (Av l ids) i)) w=POST at*;clear au af hr bg a5 a3 a4 ad ac ab ao hid kp;go_wp2_with (go_at_call 48;(with_reducible refine (ks.out).mono ?_);rintro _ w7 ⟨A5,c5,rfl,h5,h6⟩;have ag:=lh (az.out _ _ ⟨A5,c5,rfl,h5,h6⟩);clear ks az h5 h6)
   first|exact ag.out|(go_ret;exact ag.out)
def Bz (l:List Pn) (above ids:List Id):Nat->List Id
 |0=>[]
 |k+1=>match ids[k]? with
  |some y=>if (plc l y).isSome&& !Bi above y&& !Bi (Bz l above ids k) y then Bz l above ids k++[y] else Bz l above ids k
  |none=>Bz l above ids k
def Cp (l:List Pn) (ids:List Id):List Id:=An (Cj l (Av l ids) l.length)
def E1 (l:List Pn) (ids:List Id):List Id:=An (Bz l (Cp l ids) ids ids.length)
theorem Ab8 {l:List Pn} {above ids:List Id} {k:Nat} {y:Id} (h:ids[k]? =some y):
  Bz l above ids (k+1)=if (plc l y).isSome&& !Bi above y&& !Bi (Bz l above ids k) y then Bz l above ids k++[y] else Bz l above ids k:=by
 show (match ids[k]? with|some y=>if (plc l y).isSome&& !Bi above y&& !Bi (Bz l above ids k) y then Bz l above ids k++[y] else Bz l above ids k|none=>Bz l above ids k)=_;rw [h]
theorem Lg (l:List Pn) (above ids:List Id):∀k,(Bz l above ids k).length<=k
 |0=>Nat.le_refl _
 |k+1=>by
  have ih:=Lg l above ids k;unfold Bz
  split
  ·
   split
   · rw [An7,List.length_singleton];omega
   · omega
  · omega
theorem plcI_pos {l:List Pn} {id:Id}:0<=As l id<->(plc l id).isSome=true:=by
 unfold As
 cases plc l id with
 |none=>simp
 |some p=>simp
theorem Qz (l:List Pn) (ids:List Id):(Cp l ids).length<=l.length:=by
 unfold Cp;rw [E0];exact Qw _ _ _
theorem Ab9 (base:Nat) (r:RG) (B n c:Nat) (A:Option Addr) (ids:List Id) (w:World) (h:r.own w base) (hn:Hid (ids.length=n)) (hr:Rd w B 3 A n (ids.flatMap Id.cells)) (hnm:n<=100000):
  Calls zp 92 #[.agg r.cells,.slice A n c] w (Co (E1 r.l ids) w):=by
 have bg:=Blk.new w 32 r.cells;have f0:Fr Non w (w.alloc (.cells r.cells 32)):=(Fr.refl Non w).alloc _;have kp:=lh (fun (id:Id) (w':World) (hf:Fr Non w w')=>G7 base r id w' (h.non hf));have hl:=Bb (P:=zp) w.heap.size 32 underlying32 rfl (cs:=r.cells) Cz;have bd:=lh (fun (w':World) (hf:Fr Non w w')=>Qy base r B n c A ids w' (h.non hf) hn (hr.fr hf zr) (by omega));have bw:(Cp r.l ids).length<=1000:=Ao2 (Qz _ _) (Ao2 h.few (by omega));have bf:=lh (fun k y (hy:ids[k]? =some y)=>Ab8 (l:=r.l) (above:=Cp r.l ids) hy);have bj:=lh (Lg r.l (Cp r.l ids) ids);have a1:Hid (∀id,0<=As r.l id<->(plc r.l id).isSome=true):=fun id=>plcI_pos;have bn:Hid (E1 r.l ids=An (Bz r.l (Cp r.l ids) ids n)):=by show _=_;rw [<- hn.out];rfl
 rw [bn.out];change Hid (∀(w':World),Fr Non w w'->Calls zp 135 #[.agg r.cells,.slice A n c] w' (Co (Cp r.l ids) w')) at bd;clear h bn;generalize Cp r.l ids=ab at*;generalize r.cells=CS at*;generalize r.l=l at*;go_enter func92,ntmps92;go_upto_region 1 with (fail)
 generalize w.alloc (.cells CS 32)=w0 at*;go_wp2_with (go_at_call 135;(with_reducible refine (bd.out _ f0).mono ?_);rintro _ w1 ⟨A1,c1,rfl,o1,f1⟩;have bq:=f0.trans f1 zr;have b1:=bg.fr f1 zq;clear bd)
 go_loopw [6,7] (fun s v wr=>∃(k:Nat) (Ax:Option Addr) (cx:Nat) (xs:List Id),v=.int .i64 (k:Int)/\s=.slice Ax xs.length cx/\k<=n/\Hid (xs=Bz l ab ids k)/\Own wr w1.heap.size 38 3 Ax xs.length cx (xs.flatMap Id.cells)/\Fr Non w1 wr) (fun _ v _=>n-(intOf v).toNat)
 case atStart=>exact ⟨0,none,0,[],rfl,rfl,by omega,rfl,Own.nil _ _ _ _,Fr.refl _ _⟩
 case round=>
  obtain ⟨k,Ax,cx,xs,rfl,rfl,hk,a0,ao,hf⟩:=hrel;have a8:Fr Non w wr:=bq.trans hf zr;have bc:=ao.row;have bv:xs.length<=k:=by rw [a0.out];exact bj.out k
  by_cases hlt:k<n
  ·
   obtain ⟨y,hy⟩:∃y,ids[k]? =some y:=⟨_,An3 (by rw [hn.out];exact hlt)⟩;obtain ⟨b,ap,rfl,a9,k0,k1,k2⟩:=Id.at (hr.fr a8 zr) hy;have au:=lh (bf.out k y hy);rw [<- a0.out] at au;obtain ⟨i1,i2,i3⟩:=ix k n
   have B0:=(b1.fr hf zq).drew;have a5:Fr Non w wr.drew:=a8.drew;have aj:cI wr.drew b (ap+k*3) y.b:=k0;have ak:cI wr.drew b (ap+k*3+1) y.s:=k1;have ai:cU wr.drew b (ap+k*3+2) y.u:=k2;have O0:Own wr.drew w1.heap.size 38 3 Ax xs.length cx (xs.flatMap Id.cells):=ao.drew;have H0:Fr Non w1 wr.drew:=hf.drew;have az:=lh (kp.out y wr.drew a5);have a2:Hid (∀w',Fr Non w1 w'->Calls zp 31 #[.slice A1 ab.length c1,.agg y.V] w' (Ae (Bi ab y) w')):=fun w' hw=>Hk _ ab.length c1 A1 ab y w' rfl (o1.rd.fr hw zr) (by omega);have a3:Hid (∀w',Own w' w1.heap.size 38 3 Ax xs.length cx (xs.flatMap Id.cells)->Calls zp 31 #[.slice Ax xs.length cx,.agg y.V] w' (Ae (Bi xs y) w')):=fun w' hw=>Hk _ xs.length cx Ax xs y w' rfl hw.rd (by omega);have bi:=a1.out y
   have a6:Hid (∀b,(plc l y).isSome=b->decide (As l y>=0)=b):=fun b e=>by
    subst e
    cases hq:(plc l y).isSome with
    |true=>exact decide_eq_true (bi.2 hq)
    |false=>exact decide_eq_false (fun e=>by rw [bi.1 e] at hq;cases hq)
   clear kp bf bj k0 k1 k2 hy a1 bi;generalize Bi ab y=h1 at*;generalize Bi xs y=h2 at*;obtain ⟨ps,bk⟩:∃b,(plc l y).isSome=b:=⟨_,rfl⟩;have hP:=a6.out ps bk;rw [bk] at au;clear a6 bk;generalize As l y=P at*
   cases ps
   case false=>
    go_upto_region 6 with (fail)
    clear ao hf a9;refine wp_region_held_drew (S:=fun w'=>Blk w' w.heap.size 32 CS/\cI w' b (ap+k*3) y.b/\cI w' b (ap+k*3+1) y.s/\cU w' b (ap+k*3+2) y.u) (by kernel_rfl) ⟨B0,aj,ak,ai⟩ (fun hHeld=> ?_);clear hHeld;have uu:=aI B0 (aI aj (aI ak ai));refine tkH 0 uu (h:=tkH 1 uu (h:=tkH 2 uu (h:=tkH 3 uu (h:=tkH 4 uu (h:=?_)))));clear uu;simp only [zl];refine oG 5 (fun K hK=> ?_);go_simp;go_wp2_with (go_at_call 56;(with_reducible refine (az.out).mono ?_);rintro _ v1 ⟨rfl,ah⟩;have B1:=B0.fr ah zq;obtain ⟨aa,ad,ac⟩:=zk3 ah aj ak ai;have a4:=a5.trans ah zr;have O1:=O0.fr ah zr;have H1:=H0.trans ah zr);refine hK.out _ _ ⟨B1,aa,ad,ac⟩ (fun hZ=> ?_);clear hZ hK K;try simp only [Ac,zl]
    have uu:=aI B1 (aI aa (aI ad ac));refine tkH 6 uu (h:=tkH 7 uu (h:=skH 8 uu (h:=skH 9 uu (h:=skH 10 uu (h:=skH 11 uu (h:=skH 12 uu (h:=skH 13 uu (h:=skH 14 uu (h:=tkH 15 uu (h:=tkH 16 uu (h:=skH 17 uu (h:=?_))))))))))));clear uu;simp only [zl];have uu:=aI B1 (aI aa (aI ad ac));refine skH 18 uu (h:=skH 19 uu (h:=skH 20 uu (h:=skH 21 uu (h:=skH 22 uu (h:=skH 23 uu (h:=tkH 24 uu (h:=?_)))))));clear uu;simp only [zl];refine oD ?_;go_simp;have aq:Hid (xs=Bz l ab ids (k+1)):=by show _=_;rw [au.out];rfl
    have hz:=H1;have oz:=O1;clear au a0 az a2 a3;go_wp2_with fail;go_roundw
    case rel=>exact ⟨k+1,Ax,cx,xs,by go_num,rfl,by omega,aq,oz,hz⟩
    case measure=>simp [intOf];omega
   case true=>
    cases h1
    case true=>
     go_upto_region 6 with (fail)
     clear ao hf a9;refine wp_region_held_drew (S:=fun w'=>Blk w' w.heap.size 32 CS/\cI w' b (ap+k*3) y.b/\cI w' b (ap+k*3+1) y.s/\cU w' b (ap+k*3+2) y.u) (by kernel_rfl) ⟨B0,aj,ak,ai⟩ (fun hHeld=> ?_);clear hHeld;have uu:=aI B0 (aI aj (aI ak ai));refine tkH 0 uu (h:=tkH 1 uu (h:=tkH 2 uu (h:=tkH 3 uu (h:=tkH 4 uu (h:=?_)))));clear uu;simp only [zl];refine oG 5 (fun K hK=> ?_);go_simp;go_wp2_with (go_at_call 56;(with_reducible refine (az.out).mono ?_);rintro _ v1 ⟨rfl,ah⟩;have B1:=B0.fr ah zq;obtain ⟨aa,ad,ac⟩:=zk3 ah aj ak ai;have a4:=a5.trans ah zr;have O1:=O0.fr ah zr;have H1:=H0.trans ah zr);refine hK.out _ _ ⟨B1,aa,ad,ac⟩ (fun hZ=> ?_);clear hZ hK K;try simp only [Ac,zl]
     have uu:=aI B1 (aI aa (aI ad ac));refine tkH 6 uu (h:=tkH 7 uu (h:=tkH 8 uu (h:=tkH 9 uu (h:=tkH 10 uu (h:=tkH 11 uu (h:=tkH 12 uu (h:=?_)))))));clear uu;simp only [zl];refine oG 13 (fun K hK=> ?_);go_simp;go_wp2_with (go_at_call 31;(with_reducible refine (a2.out _ H1).mono ?_);rintro _ v2 ⟨rfl,al⟩;have B2:=B1.fr al zq;obtain ⟨ae,ag,af⟩:=zk3 al aa ad ac;have ba:=a4.trans al zr;have O2:=O1.fr al zr;have H2:=H1.trans al zr);refine hK.out _ _ ⟨B2,ae,ag,af⟩ (fun hZ=> ?_);clear hZ hK K;try simp only [Ac,zl]
     have uu:=aI B2 (aI ae (aI ag af));refine tkH 14 uu (h:=tkH 15 uu (h:=tkH 16 uu (h:=skH 17 uu (h:=skH 18 uu (h:=skH 19 uu (h:=skH 20 uu (h:=skH 21 uu (h:=skH 22 uu (h:=skH 23 uu (h:=tkH 24 uu (h:=?_)))))))))));clear uu;simp only [zl];refine oD ?_;go_simp;have aq:Hid (xs=Bz l ab ids (k+1)):=by show _=_;rw [au.out];rfl
     have hz:=H2;have oz:=O2;clear au a0 az a2 a3;go_wp2_with fail;go_roundw
     case rel=>exact ⟨k+1,Ax,cx,xs,by go_num,rfl,by omega,aq,oz,hz⟩
     case measure=>simp [intOf];omega
    case false=>
     cases h2
     case true=>
      go_upto_region 6 with (fail)
      clear ao hf a9;refine wp_region_held_drew (S:=fun w'=>Blk w' w.heap.size 32 CS/\cI w' b (ap+k*3) y.b/\cI w' b (ap+k*3+1) y.s/\cU w' b (ap+k*3+2) y.u) (by kernel_rfl) ⟨B0,aj,ak,ai⟩ (fun hHeld=> ?_);clear hHeld;have uu:=aI B0 (aI aj (aI ak ai));refine tkH 0 uu (h:=tkH 1 uu (h:=tkH 2 uu (h:=tkH 3 uu (h:=tkH 4 uu (h:=?_)))));clear uu;simp only [zl];refine oG 5 (fun K hK=> ?_);go_simp;go_wp2_with (go_at_call 56;(with_reducible refine (az.out).mono ?_);rintro _ v1 ⟨rfl,ah⟩;have B1:=B0.fr ah zq;obtain ⟨aa,ad,ac⟩:=zk3 ah aj ak ai;have a4:=a5.trans ah zr;have O1:=O0.fr ah zr;have H1:=H0.trans ah zr);refine hK.out _ _ ⟨B1,aa,ad,ac⟩ (fun hZ=> ?_);clear hZ hK K;try simp only [Ac,zl]
      have uu:=aI B1 (aI aa (aI ad ac));refine tkH 6 uu (h:=tkH 7 uu (h:=tkH 8 uu (h:=tkH 9 uu (h:=tkH 10 uu (h:=tkH 11 uu (h:=tkH 12 uu (h:=?_)))))));clear uu;simp only [zl];refine oG 13 (fun K hK=> ?_);go_simp;go_wp2_with (go_at_call 31;(with_reducible refine (a2.out _ H1).mono ?_);rintro _ v2 ⟨rfl,al⟩;have B2:=B1.fr al zq;obtain ⟨ae,ag,af⟩:=zk3 al aa ad ac;have ba:=a4.trans al zr;have O2:=O1.fr al zr;have H2:=H1.trans al zr);refine hK.out _ _ ⟨B2,ae,ag,af⟩ (fun hZ=> ?_);clear hZ hK K;try simp only [Ac,zl]
      have uu:=aI B2 (aI ae (aI ag af));refine tkH 14 uu (h:=tkH 15 uu (h:=tkH 16 uu (h:=tkH 17 uu (h:=tkH 18 uu (h:=tkH 19 uu (h:=tkH 20 uu (h:=tkH 21 uu (h:=?_))))))));clear uu;simp only [zl];refine oG 22 (fun K hK=> ?_);go_simp;go_wp2_with (go_at_call 31;(with_reducible refine (a3.out _ O2).mono ?_);rintro _ v3 ⟨rfl,ar⟩;have B3:=B2.fr ar zq;obtain ⟨ax,av,ay⟩:=zk3 ar ae ag af;have bt:=ba.trans ar zr;have O3:=O2.fr ar zr;have H3:=H2.trans ar zr);refine hK.out _ _ ⟨B3,ax,av,ay⟩ (fun hZ=> ?_);clear hZ hK K;try simp only [Ac,zl]
      refine tkH 23 ⟨B3,ax,av,ay⟩ (h:=tkH 24 ⟨B3,ax,av,ay⟩ (h:=?_));simp only [zl];refine oD ?_;go_simp;have aq:Hid (xs=Bz l ab ids (k+1)):=by show _=_;rw [au.out];rfl
      have hz:=H3;have oz:=O3;clear au a0 az a2 a3;go_wp2_with fail;go_roundw
      case rel=>exact ⟨k+1,Ax,cx,xs,by go_num,rfl,by omega,aq,oz,hz⟩
      case measure=>simp [intOf];omega
     case false=>
      go_upto_region 6 with (fail)
      clear ao hf a9;refine wp_region_held_drew (S:=fun w'=>Blk w' w.heap.size 32 CS/\cI w' b (ap+k*3) y.b/\cI w' b (ap+k*3+1) y.s/\cU w' b (ap+k*3+2) y.u) (by kernel_rfl) ⟨B0,aj,ak,ai⟩ (fun hHeld=> ?_);clear hHeld;have uu:=aI B0 (aI aj (aI ak ai));refine tkH 0 uu (h:=tkH 1 uu (h:=tkH 2 uu (h:=tkH 3 uu (h:=tkH 4 uu (h:=?_)))));clear uu;simp only [zl];refine oG 5 (fun K hK=> ?_);go_simp;go_wp2_with (go_at_call 56;(with_reducible refine (az.out).mono ?_);rintro _ v1 ⟨rfl,ah⟩;have B1:=B0.fr ah zq;obtain ⟨aa,ad,ac⟩:=zk3 ah aj ak ai;have a4:=a5.trans ah zr;have O1:=O0.fr ah zr;have H1:=H0.trans ah zr);refine hK.out _ _ ⟨B1,aa,ad,ac⟩ (fun hZ=> ?_);clear hZ hK K;try simp only [Ac,zl]
      have uu:=aI B1 (aI aa (aI ad ac));refine tkH 6 uu (h:=tkH 7 uu (h:=tkH 8 uu (h:=tkH 9 uu (h:=tkH 10 uu (h:=tkH 11 uu (h:=tkH 12 uu (h:=?_)))))));clear uu;simp only [zl];refine oG 13 (fun K hK=> ?_);go_simp;go_wp2_with (go_at_call 31;(with_reducible refine (a2.out _ H1).mono ?_);rintro _ v2 ⟨rfl,al⟩;have B2:=B1.fr al zq;obtain ⟨ae,ag,af⟩:=zk3 al aa ad ac;have ba:=a4.trans al zr;have O2:=O1.fr al zr;have H2:=H1.trans al zr);refine hK.out _ _ ⟨B2,ae,ag,af⟩ (fun hZ=> ?_);clear hZ hK K;try simp only [Ac,zl]
      have uu:=aI B2 (aI ae (aI ag af));refine tkH 14 uu (h:=tkH 15 uu (h:=tkH 16 uu (h:=tkH 17 uu (h:=tkH 18 uu (h:=tkH 19 uu (h:=tkH 20 uu (h:=tkH 21 uu (h:=?_))))))));clear uu;simp only [zl];refine oG 22 (fun K hK=> ?_);go_simp;go_wp2_with (go_at_call 31;(with_reducible refine (a3.out _ O2).mono ?_);rintro _ v3 ⟨rfl,ar⟩;have B3:=B2.fr ar zq;obtain ⟨ax,av,ay⟩:=zk3 ar ae ag af;have bt:=ba.trans ar zr;have O3:=O2.fr ar zr;have H3:=H2.trans ar zr);refine hK.out _ _ ⟨B3,ax,av,ay⟩ (fun hZ=> ?_);clear hZ hK K;try simp only [Ac,zl]
      refine tkH 23 ⟨B3,ax,av,ay⟩ (h:=tkH 24 ⟨B3,ax,av,ay⟩ (h:=?_));simp only [zl];refine oD ?_;go_simp;have aq:Hid (xs++[y]=Bz l ab ids (k+1)):=by show _=_;rw [au.out];rfl
      have hz:=H3;have oz:=O3;have e0:=ax;have e1:=av;have e2:=ay;clear au a0 az a2 a3;have bh:=oz.alloc (.cells y.V 38);have bp:=hz.alloc (.cells y.V 38);have bo:=Blk.new v3 38 y.V;have bx:=hz.size;go_wp2_with (at_builtin;go_loud (refine Aw (base:=w1.heap.size) (.tmp 42) (.tmp 47) 28 rfl rfl rfl rfl C1 bh (Rd.blk (n:=1) (size:=3) bo rfl) (by simp [Value.oneCell']) (by omega) (by omega) (by rw [Ao3];omega) ?_);intro A2 bm w4 bb bs br)
      have be:Own w4 w1.heap.size 38 3 A2 (xs++[y]).length bm ((xs++[y]).flatMap Id.cells):=by
       rw [An7,Ao7];exact bb
      have bu:Fr Non w1 w4:=bp.trans bs (fun j hj e=>by have h5:=(bc j e).1;omega);go_roundw
      case rel=>exact ⟨k+1,A2,bm,xs++[y],by go_num,by rw [An7];rfl,by omega,aq,be,bu⟩
      case measure=>simp [intOf];omega
  ·
   obtain rfl:k=n:=by omega
   have ks:=lh (Fm wr.heap.size xs.length cx Ax xs wr rfl ao.rd (by omega))
   have a7:Hid (∀e w',SortPost xs xs.length wr e w'->Co (An (Bz l ab ids k)) w e w'):=by
    rintro e w' ⟨A5,c5,h1,h2,h3⟩;have bl:(An xs).length=xs.length:=E0 xs;rw [<- a0.out];exact ⟨A5,c5,by rw [bl];exact h1,by rw [bl];exact h2.lower a8.size,a8.trans h3 zr⟩
   generalize Co (An (Bz l ab ids k)) w=POST at*;clear a0 ao hr bg bf bj a1 kp;go_wp2_with (go_at_call 48;(with_reducible refine (ks.out).mono ?_);rintro _ w7 ⟨A5,c5,rfl,h5,h6⟩;have aw:=lh (a7.out _ _ ⟨A5,c5,rfl,h5,h6⟩);clear ks a7 h5 h6)
   first|exact aw.out|(go_ret;exact aw.out)
end Oq
end Go.Proofs.YtihfebhfgliojaaGreatDoor
