/-
  Contracts of the functions that the claim's statement reaches, walked one by one (part 11).
  Conditions: as each theorem says.
-/
import Derived.Test.YtmcpnjoomlgmlaaGreatDoorRwM10
set_option maxRecDepth 100000
set_option maxHeartbeats 16000000
open Go.Proofs.Tryz
open Go.Proofs.Tryz renaming prog->zp
open Go.Lib renaming hid->lh
open List renaming set->zl
open Go.Ending renaming returned->ze
namespace Go.Proofs.YtmcpnjoomlgmlaaGreatDoor
attribute [local go_sem ↓] Go.wp_at_zero Go.wp_at_succ
section
open Go.RowKit Go.Maps
namespace Oq
attribute [local go_sem] Bool.not_false Bool.not_true
def OpL.ls (x:OpL):Int:=if x.kind=3 then 0 else 1
def OpL.nd (x:OpL):Int:=if x.kind=1 then 0 else 1
def OpL.mo (x:OpL):Int:=if x.kind=1 then 20 else (x.guards.length:Int)
def OpL.mb (x:OpL):Bool:=if x.kind=3 then ((inR x.mem 1 8&&x.dev==0)||(x.mem==0&&x.dev !=0)) else inR x.mem 1 8
def OpL.mayB (x:OpL) (j:Nat):Bool:=match j with
 |0=>inR x.dev x.ls 12
 |1=>inR x.old 1 12
 |2=>x.mb
 |3=>inR x.role 1 3
 |5=>x.epoch.named
 |6=>inR x.n 0 2147483647
 |9=>x.of.named
 |11=>inR x.need x.nd x.mo
 |12=>inR x.wait 0 2147483647
 |14=>Cj x.pub
 |_=>true
def OpL.itemsL (x:OpL):Bool:=x.guards.all (fun n=>inR n 1 12)&&(x.refs.all fOk&&(x.past.all Id.named&&(x.path.all (fun y=>Cj y.p&&y.xs.all Bx.may)&&(x.boxes.all Bx.may&&x.hist.all (fun y=>y.f.named)))))
def OpL.loopB (x:OpL) (has:Nat):Bool:=(List.range 16).all (fun j=> !has.testBit j||x.mayB j)
def OpL.rngB (x:OpL) (has:Nat):Bool:=inR x.by_ 1 12&&(inR x.sq 1 2147483647&&(inR x.at_ 0 2147483647&&(x.loopB has&&x.itemsL)))
def RA (x:OpL) (has:Nat) (left:Lit->Bool):Prop:=∀j,j<16->left (.int .i64 ((2^j:Nat):Int))=false->has.testBit j=true->x.mayB j=true
def mayIns:List (Nat × Int × Nat):=[(5,(1:Int),62),(9,(2:Int),65),(11,(4:Int),66),(15,(8:Int),69),(19,(64:Int),72),(23,(4096:Int),75),(29,(2048:Int),80),(33,(32:Int),83),(37,(512:Int),86),(41,(16384:Int),89)]
def R6 (x:OpL) (t:Nat):Bool:=match t with
 |62=>x.mayB 0
 |65=>x.mayB 1
 |66=>x.mayB 2
 |69=>x.mayB 3
 |72=>x.mayB 6
 |75=>x.mayB 12
 |80=>x.mayB 11
 |83=>x.mayB 5
 |86=>x.mayB 9
 |89=>x.mayB 14
 |_=>false
def mayCv (x:OpL) (t:Nat):Bool:=match t with
 |4=>x.mayB 0
 |8=>x.mayB 1
 |14=>x.mayB 3
 |18=>x.mayB 6
 |22=>x.mayB 12
 |28=>x.mayB 11
 |32=>x.mayB 5
 |36=>x.mayB 9
 |40=>x.mayB 14
 |_=>false
theorem Ag9 (x:OpL):∀y∈mayIns,∃j,j<16/\y.2.1=((2^j:Nat):Int)/\R6 x y.2.2=x.mayB j:=by
 unfold mayIns;refine List.forall_mem_cons.2 ⟨⟨0,by decide,rfl,rfl⟩,?_⟩;refine List.forall_mem_cons.2 ⟨⟨1,by decide,rfl,rfl⟩,?_⟩;refine List.forall_mem_cons.2 ⟨⟨2,by decide,rfl,rfl⟩,?_⟩;refine List.forall_mem_cons.2 ⟨⟨3,by decide,rfl,rfl⟩,?_⟩;refine List.forall_mem_cons.2 ⟨⟨6,by decide,rfl,rfl⟩,?_⟩;refine List.forall_mem_cons.2 ⟨⟨12,by decide,rfl,rfl⟩,?_⟩;refine List.forall_mem_cons.2 ⟨⟨11,by decide,rfl,rfl⟩,?_⟩;refine List.forall_mem_cons.2 ⟨⟨5,by decide,rfl,rfl⟩,?_⟩;refine List.forall_mem_cons.2 ⟨⟨9,by decide,rfl,rfl⟩,?_⟩;refine List.forall_mem_cons.2 ⟨⟨14,by decide,rfl,rfl⟩,?_⟩;exact fun y hy=>absurd hy (by simp)
theorem Ah0:∀j,j<16->(mayIns.find? (fun y=>y.2.1==((2^j:Nat):Int))).isSome=false->j=4\/j=7\/j=8\/j=10\/j=13\/j=15:=by decide
theorem RA.start {x:OpL} {has:Nat} {left:Lit->Bool} (h:∀j,j<16->left (.int .i64 ((2^j:Nat):Int))=(mayIns.find? (fun y=>y.2.1==((2^j:Nat):Int))).isSome):RA x has left:=by
 intro j hj hl _;rw [h j hj] at hl
 rcases Ah0 j hj hl with rfl|rfl|rfl|rfl|rfl|rfl<;>rfl
theorem RA.step {x:OpL} {has j:Nat} {left:Lit->Bool} (h:RA x has left) (hj:j<16) (hb:has.testBit j=true->x.mayB j=true):RA x has (fun z=>left z&& !z.sameKey (.int .i64 ((2^j:Nat):Int))):=by
 intro i hi hl hbi
 by_cases hij:i=j
 ·
  subst hij;exact hb hbi
 ·
  replace hl:(left (.int .i64 ((2^i:Nat):Int))&& !(Lit.int .i64 ((2^i:Nat):Int)).sameKey (.int .i64 ((2^j:Nat):Int)))=false:=hl;rw [Ry hij] at hl;exact h i hi (by simpa using hl) hbi
theorem RA.done {x:OpL} {has:Nat} {left:Lit->Bool} (h:RA x has left) (hl:∀kl,left kl=false):x.loopB has=true:=by
 unfold OpL.loopB;rw [List.all_eq_true];intro j hj;have hj':j<16:=by simpa using hj
 cases hb:has.testBit j with
 |false=>rfl
 |true=>rw [h j hj' (hl _) hb];rfl
theorem Ah1 {x:OpL} {has j:Nat} (hj:j<16) (hb:has.testBit j=true) (hm:x.mayB j=false):x.loopB has=false:=by
 unfold OpL.loopB;rw [List.all_eq_false];exact ⟨j,by simpa using hj,by rw [hb,hm];decide⟩
theorem Ah2 (x:OpL) (has:Nat) (hhas:has<65536) (w:World) (hat:x.at w w.heap.size) (hok:x.op.ok):Calls zp 146 #[.agg x.cells,.int .i64 (has:Int)] w (Ag (x.rngB has) w):=by
 have ba:=Blk.new w 52 x.cells;have f0:Fr Non w (w.alloc (.cells x.cells 52)):=(Fr.refl Non w).alloc _;have c0:cI (w.alloc (.cells x.cells 52)) w.heap.size 0 x.by_:=ba.cell 0;have c1:cI (w.alloc (.cells x.cells 52)) w.heap.size 1 x.sq:=ba.cell 1;have c2:cI (w.alloc (.cells x.cells 52)) w.heap.size 2 x.kind:=ba.cell 2;have c3:cI (w.alloc (.cells x.cells 52)) w.heap.size 3 x.at_:=ba.cell 3;have c4:cS (w.alloc (.cells x.cells 52)) w.heap.size 4 x.pastA x.past.length x.pastC:=ba.cell 4;have c5:cI (w.alloc (.cells x.cells 52)) w.heap.size 5 x.dev:=ba.cell 5;have c6:cI (w.alloc (.cells x.cells 52)) w.heap.size 6 x.old:=ba.cell 6;have c7:cI (w.alloc (.cells x.cells 52)) w.heap.size 7 x.mem:=ba.cell 7;have c8:cI (w.alloc (.cells x.cells 52)) w.heap.size 8 x.role:=ba.cell 8;have c9:cS (w.alloc (.cells x.cells 52)) w.heap.size 9 x.pathA x.path.length x.pathC:=ba.cell 9;have d4:cI (w.alloc (.cells x.cells 52)) w.heap.size 10 x.epoch.b:=ba.cell 10;have cz:cI (w.alloc (.cells x.cells 52)) w.heap.size 11 x.epoch.s:=ba.cell 11;have de:cU (w.alloc (.cells x.cells 52)) w.heap.size 12 x.epoch.u:=ba.cell 12;have dd:cI (w.alloc (.cells x.cells 52)) w.heap.size 13 x.n:=ba.cell 13;have bb:cS (w.alloc (.cells x.cells 52)) w.heap.size 15 x.refsA x.refs.length x.refsC:=ba.cell 15;have dm:cI (w.alloc (.cells x.cells 52)) w.heap.size 16 x.of.b:=ba.cell 16;have dt:cI (w.alloc (.cells x.cells 52)) w.heap.size 17 x.of.s:=ba.cell 17;have dj:cU (w.alloc (.cells x.cells 52)) w.heap.size 18 x.of.u:=ba.cell 18;have ca:cS (w.alloc (.cells x.cells 52)) w.heap.size 19 x.guardsA x.guards.length x.guardsC:=ba.cell 19;have da:cI (w.alloc (.cells x.cells 52)) w.heap.size 20 x.need:=ba.cell 20;have dy:cI (w.alloc (.cells x.cells 52)) w.heap.size 21 x.wait:=ba.cell 21;have ab:cS (w.alloc (.cells x.cells 52)) w.heap.size 22 x.boxesA x.boxes.length x.boxesC:=ba.cell 22;have cy:cU (w.alloc (.cells x.cells 52)) w.heap.size 23 x.pub:=ba.cell 23;have aa:cS (w.alloc (.cells x.cells 52)) w.heap.size 24 x.histA x.hist.length x.histC:=ba.cell 24;have cb:x.guards.length<=1000000:=by have h:=hok.guards.1;rw [show x.op.guards=x.guards from rfl] at h;omega
 have cw:x.refs.length<=1000000:=by have h:=hok.refs.1;rw [show x.op.refs=x.refs from rfl] at h;omega
 have ck:x.boxes.length<=1000000:=by have h:=hok.boxes.1;rw [show x.op.boxes=x.boxes from rfl] at h;omega
 have cj:∀y∈x.path,y.xs.length<=1000000:=fun y hy=>by have h:=(hok.path.2 y.nd (List.mem_map.2 ⟨y,hy,rfl⟩)).2.1;rw [show y.nd.xs=y.xs from rfl] at h;omega
 have dh:x.past.length<=1000000:=by have h:=hok.past.1;rw [show x.op.past=x.past from rfl] at h;omega
 have df:x.path.length<=1000000:=by have h:=hok.path.1;rw [show x.op.path=x.path.map NdL.nd from rfl,List.length_map] at h;omega
 have dl:x.hist.length<=1000000:=by have h:=hok.hist.1;rw [show x.op.hist=x.hist.map SlL.sl from rfl,List.length_map] at h;omega
 have dv:=lh (fun w'=>Dm x.by_ 1 12 w');have dc:=lh (fun w'=>Dm x.sq 1 2147483647 w');have d2:=lh (fun w'=>Dm x.at_ 0 2147483647 w');have km:=lh (fun w'=>Dm x.mem 1 8 w');have ct:=lh (fun (w':World) (h:Fr Non w w')=>Ae3 w.heap.size x.guards.length x.guardsC x.guardsA x.guards (fun n=>inR n 1 12) w' rfl (hat.guards.1.fr h zr) cb (fun y _ ad _=>Ag4 y ad));have cr:=lh (fun (w':World) (h:Fr Non w w')=>Ae6 w.heap.size x.refs.length x.refsC x.refsA x.refs fOk w' rfl (hat.refs.1.fr h zr) cw (fun y _ ad _=>J7 y ad));have cu:=lh (fun (w':World) (h:Fr Non w w')=>Ae9 w.heap.size x.past.length x.pastC x.pastA x.past Id.named w' rfl (hat.past.1.fr h zr) dh (fun y _ ad _=>J8 y ad));have cs:=lh (fun (w':World) (h:Fr Non w w')=>Af4 w.heap.size x.path.length x.pathC x.pathA x.path (fun y=>Cj y.p&&y.xs.all Bx.may) w' rfl (hat.path.1.fr h zr) df (fun y hy ad h'=>Ag8 w.heap.size y ad ((hat.nodes y hy).fr (h.trans h' zr) zr) (cj y hy)));have cp:=lh (fun (w':World) (h:Fr Non w w')=>R4 w.heap.size x.boxes.length x.boxesC x.boxesA x.boxes Bx.may w' rfl (hat.boxes.1.fr h zr) ck (fun y _ ad _=>R5 y ad));have cm:=lh (fun (w':World) (h:Fr Non w w')=>Ag0 w.heap.size x.hist.length x.histC x.histA x.hist (fun y=>y.f.named) w' rfl (hat.hist.1.fr h zr) dl (fun y _ ad _=>Ag5 y ad));have ac:Hid (x.rngB has=(inR x.by_ 1 12&&(inR x.sq 1 2147483647&&(inR x.at_ 0 2147483647&&(x.loopB has&&(x.guards.all (fun n=>inR n 1 12)&&(x.refs.all fOk&&(x.past.all Id.named&&(x.path.all (fun y=>Cj y.p&&y.xs.all Bx.may)&&(x.boxes.all Bx.may&&x.hist.all (fun y=>y.f.named))))))))))):=rfl;generalize x.rngB has=LB at*;generalize inR x.by_ 1 12=b1 at*;generalize inR x.sq 1 2147483647=b2 at*;generalize inR x.at_ 0 2147483647=b3 at*;generalize (x.guards.all (fun n=>inR n 1 12))=g1 at*;generalize (x.refs.all fOk)=g2 at*;generalize (x.past.all Id.named)=g3 at*;generalize (x.path.all (fun y=>Cj y.p&&y.xs.all Bx.may))=g4 at*;generalize (x.boxes.all Bx.may)=g5 at*;generalize (x.hist.all (fun y=>y.f.named))=g6 at*;generalize x.cells=CS at*;clear ba hat hok dh df dl cb cw cj ck
 cases b1
 ·
  have hv:Hid (false=LB):=by show _=_;rw [ac.out];rfl
  clear ac;go_enter func146,ntmps146;go_wp2_with (first
  |(go_at_call 176;(with_reducible refine (dv.out _).mono ?_);rintro _ v1 ⟨rfl,f1⟩;have d3:=f0.trans f1 zr;clear dv;obtain ⟨cq,be,bl,bs,bq,bj,b5,bf⟩:=zk8 f1 c1 c2 c3 c4 c5 c6 c7 c8;obtain ⟨bv,a5,a2,ao,a0,a7,az,af⟩:=zk8 f1 c9 d4 cz de dd bb dm dt;obtain ⟨a9,al,ar,ay,ap,ah,a8⟩:=zk7 f1 dj ca da dy ab cy aa)
  |(go_at_call 176;(with_reducible refine (dc.out _).mono ?_);rintro _ v2 ⟨rfl,f2⟩;have d1:=d3.trans f2 zr;clear dc;obtain ⟨b0,cn,b4,bc,bi,bh,bu,bt⟩:=zk8 f2 be bl bs bq bj b5 bf bv;obtain ⟨ae,av,aw,ak,au,a3,a1,ai⟩:=zk8 f2 a5 a2 ao a0 a7 az af a9;obtain ⟨aq,ag,a4,aj,ax,a6⟩:=zk6 f2 al ar ay ap ah a8)
  |(go_at_call 176;(with_reducible refine (d2.out _).mono ?_);rintro _ v3 ⟨rfl,f3⟩;have eh:=d1.trans f3 zr;clear d2;obtain ⟨ci,ch,cd,ce,cf,cg,cl,b7⟩:=zk8 f3 b0 b4 bc bi bh bu bt ae;obtain ⟨bw,bk,bg,b6,br,bp,bx,bm⟩:=zk8 f3 av aw ak au a3 a1 ai aq;obtain ⟨b8,bo,bz,bd,bn⟩:=zk5 f3 ag a4 aj ax a6))
  go_ret
  exact ⟨congrArg (fun z=>ze (.bool z)) hv.out,d3⟩
 cases b2
 ·
  have hv:Hid (false=LB):=by show _=_;rw [ac.out];rfl
  clear ac;go_enter func146,ntmps146;go_wp2_with (first
  |(go_at_call 176;(with_reducible refine (dv.out _).mono ?_);rintro _ v1 ⟨rfl,f1⟩;have d3:=f0.trans f1 zr;clear dv;obtain ⟨cq,be,bl,bs,bq,bj,b5,bf⟩:=zk8 f1 c1 c2 c3 c4 c5 c6 c7 c8;obtain ⟨bv,a5,a2,ao,a0,a7,az,af⟩:=zk8 f1 c9 d4 cz de dd bb dm dt;obtain ⟨a9,al,ar,ay,ap,ah,a8⟩:=zk7 f1 dj ca da dy ab cy aa)
  |(go_at_call 176;(with_reducible refine (dc.out _).mono ?_);rintro _ v2 ⟨rfl,f2⟩;have d1:=d3.trans f2 zr;clear dc;obtain ⟨b0,cn,b4,bc,bi,bh,bu,bt⟩:=zk8 f2 be bl bs bq bj b5 bf bv;obtain ⟨ae,av,aw,ak,au,a3,a1,ai⟩:=zk8 f2 a5 a2 ao a0 a7 az af a9;obtain ⟨aq,ag,a4,aj,ax,a6⟩:=zk6 f2 al ar ay ap ah a8)
  |(go_at_call 176;(with_reducible refine (d2.out _).mono ?_);rintro _ v3 ⟨rfl,f3⟩;have eh:=d1.trans f3 zr;clear d2;obtain ⟨ci,ch,cd,ce,cf,cg,cl,b7⟩:=zk8 f3 b0 b4 bc bi bh bu bt ae;obtain ⟨bw,bk,bg,b6,br,bp,bx,bm⟩:=zk8 f3 av aw ak au a3 a1 ai aq;obtain ⟨b8,bo,bz,bd,bn⟩:=zk5 f3 ag a4 aj ax a6))
  go_ret
  exact ⟨congrArg (fun z=>ze (.bool z)) hv.out,d1⟩
 cases b3
 ·
  have hv:Hid (false=LB):=by show _=_;rw [ac.out];rfl
  clear ac;go_enter func146,ntmps146;go_wp2_with (first
  |(go_at_call 176;(with_reducible refine (dv.out _).mono ?_);rintro _ v1 ⟨rfl,f1⟩;have d3:=f0.trans f1 zr;clear dv;obtain ⟨cq,be,bl,bs,bq,bj,b5,bf⟩:=zk8 f1 c1 c2 c3 c4 c5 c6 c7 c8;obtain ⟨bv,a5,a2,ao,a0,a7,az,af⟩:=zk8 f1 c9 d4 cz de dd bb dm dt;obtain ⟨a9,al,ar,ay,ap,ah,a8⟩:=zk7 f1 dj ca da dy ab cy aa)
  |(go_at_call 176;(with_reducible refine (dc.out _).mono ?_);rintro _ v2 ⟨rfl,f2⟩;have d1:=d3.trans f2 zr;clear dc;obtain ⟨b0,cn,b4,bc,bi,bh,bu,bt⟩:=zk8 f2 be bl bs bq bj b5 bf bv;obtain ⟨ae,av,aw,ak,au,a3,a1,ai⟩:=zk8 f2 a5 a2 ao a0 a7 az af a9;obtain ⟨aq,ag,a4,aj,ax,a6⟩:=zk6 f2 al ar ay ap ah a8)
  |(go_at_call 176;(with_reducible refine (d2.out _).mono ?_);rintro _ v3 ⟨rfl,f3⟩;have eh:=d1.trans f3 zr;clear d2;obtain ⟨ci,ch,cd,ce,cf,cg,cl,b7⟩:=zk8 f3 b0 b4 bc bi bh bu bt ae;obtain ⟨bw,bk,bg,b6,br,bp,bx,bm⟩:=zk8 f3 av aw ak au a3 a1 ai aq;obtain ⟨b8,bo,bz,bd,bn⟩:=zk5 f3 ag a4 aj ax a6))
  go_ret
  exact ⟨congrArg (fun z=>ze (.bool z)) hv.out,eh⟩
 replace ac:Hid (LB=(x.loopB has&&(g1&&(g2&&(g3&&(g4&&(g5&&g6))))))):=ac;go_enter func146,ntmps146
 go_wp2_with (first
  |(go_at_call 176;(with_reducible refine (dv.out _).mono ?_);rintro _ v1 ⟨rfl,f1⟩;have d3:=f0.trans f1 zr;clear dv;obtain ⟨cq,be,bl,bs,bq,bj,b5,bf⟩:=zk8 f1 c1 c2 c3 c4 c5 c6 c7 c8;obtain ⟨bv,a5,a2,ao,a0,a7,az,af⟩:=zk8 f1 c9 d4 cz de dd bb dm dt;obtain ⟨a9,al,ar,ay,ap,ah,a8⟩:=zk7 f1 dj ca da dy ab cy aa)
  |(go_at_call 176;(with_reducible refine (dc.out _).mono ?_);rintro _ v2 ⟨rfl,f2⟩;have d1:=d3.trans f2 zr;clear dc;obtain ⟨b0,cn,b4,bc,bi,bh,bu,bt⟩:=zk8 f2 be bl bs bq bj b5 bf bv;obtain ⟨ae,av,aw,ak,au,a3,a1,ai⟩:=zk8 f2 a5 a2 ao a0 a7 az af a9;obtain ⟨aq,ag,a4,aj,ax,a6⟩:=zk6 f2 al ar ay ap ah a8)
  |(go_at_call 176;(with_reducible refine (d2.out _).mono ?_);rintro _ v3 ⟨rfl,f3⟩;have eh:=d1.trans f3 zr;clear d2;obtain ⟨ci,ch,cd,ce,cf,cg,cl,b7⟩:=zk8 f3 b0 b4 bc bi bh bu bt ae;obtain ⟨bw,bk,bg,b6,br,bp,bx,bm⟩:=zk8 f3 av aw ak au a3 a1 ai aq;obtain ⟨b8,bo,bz,bd,bn⟩:=zk5 f3 ag a4 aj ax a6))
 go_quiet (fail)
 have fe:Fr Non w (v3.drewN nq):=eh.drewN nq;have eg:cI (v3.drewN nq) w.heap.size 2 x.kind:=ci;have ej:cS (v3.drewN nq) w.heap.size 4 x.pastA x.past.length x.pastC:=ch;have ee:cI (v3.drewN nq) w.heap.size 5 x.dev:=cd;have ec:cI (v3.drewN nq) w.heap.size 6 x.old:=ce;have ed:cI (v3.drewN nq) w.heap.size 7 x.mem:=cf;have eo:cI (v3.drewN nq) w.heap.size 8 x.role:=cg;have ef:cS (v3.drewN nq) w.heap.size 9 x.pathA x.path.length x.pathC:=cl;have cx:cI (v3.drewN nq) w.heap.size 10 x.epoch.b:=b7;have dk:cI (v3.drewN nq) w.heap.size 11 x.epoch.s:=bw;have dp:cU (v3.drewN nq) w.heap.size 12 x.epoch.u:=bk;have dz:cI (v3.drewN nq) w.heap.size 13 x.n:=bg;have du:cS (v3.drewN nq) w.heap.size 15 x.refsA x.refs.length x.refsC:=b6;have dr:cI (v3.drewN nq) w.heap.size 16 x.of.b:=br;have di:cI (v3.drewN nq) w.heap.size 17 x.of.s:=bp;have dw:cU (v3.drewN nq) w.heap.size 18 x.of.u:=bx;have dg:cS (v3.drewN nq) w.heap.size 19 x.guardsA x.guards.length x.guardsC:=bm;have dq:cI (v3.drewN nq) w.heap.size 20 x.need:=b8;have cv:cI (v3.drewN nq) w.heap.size 21 x.wait:=bo;have db:cS (v3.drewN nq) w.heap.size 22 x.boxesA x.boxes.length x.boxesC:=bz;have dx:cU (v3.drewN nq) w.heap.size 23 x.pub:=bd;have ds:cS (v3.drewN nq) w.heap.size 24 x.histA x.hist.length x.histC:=bn;generalize v3.drewN nq=v4 at*;clear ci ch cd ce cf cg cl b7 bw bk bg b6 br bp bx bm b8 bo bz bd bn b0 cn b4 bc bi bh bu bt ae av aw ak au a3 a1 ai aq ag a4 aj ax a6 cq be bl bs bq bj b5 bf bv a5 a2 ao a0 a7 az af a9 al ar ay ap ah a8 c0 c1 c2 c3 c4 c5 c6 c7 c8 c9 d4 cz de dd bb dm dt dj ca da dy ab cy aa
 go_upto_if 38 with (go_at_call 176;(with_reducible refine (km.out _).mono ?_);rintro _ v5 ⟨rfl,f5⟩;have em:=fe.trans f5 zr;clear km;obtain ⟨c2,c4,c5,c6,c7,c8,c9,d4⟩:=zk8 f5 eg ej ee ec ed eo ef cx;obtain ⟨cz,de,dd,bb,dm,dt,dj,ca⟩:=zk8 f5 dk dp dz du dr di dw dg;obtain ⟨da,dy,ab,cy,aa⟩:=zk5 f5 dq cv db dx ds)
 clear eg ej ee ec ed eo ef cx dk dp dz du dr di dw dg dq cv db dx ds fe f5;generalize hv5:v5=W at*
 go_cut [5,8] from 14 (fun a b wc=>W=wc/\a=.int .i64 x.ls/\b=.bool x.mb)
 case first=>
  by_cases k3:x.kind=3
  ·
   have h1:Hid (x.ls=0):=if_pos k3;have fn:Hid (x.mb=((inR x.mem 1 8&&x.dev==0)||(x.mem==0&&x.dev !=0))):=if_pos k3;have ey:=Ek k3;clear k3;generalize inR x.mem 1 8=m1 at*
   rcases zb (x.dev==0) with d0|d0<;>rcases zb (x.mem==0) with e0|e0<;>cases m1
   all_goals
    have fj:(x.dev !=0)=!(x.dev==0):=rfl;rw [d0] at fj;have h2:=fn.out;rw [d0,e0,fj] at h2;replace h2:=lh h2;clear fn;go_wp2_with fail;go_meet;exact ⟨rfl,congrArg (Value.int .i64) h1.out.symm,hB h2.symm⟩
  ·
   have h1:Hid (x.ls=1):=if_neg k3;have h2:Hid (x.mb=inR x.mem 1 8):=if_neg k3;have ey:=C5 k3;clear k3;go_wp2_with fail;go_meet;exact ⟨rfl,congrArg (Value.int .i64) h1.out.symm,hB h2.symm⟩
 case rest=>
 obtain ⟨rfl,rfl,rfl⟩:=hcut
 go_upto_if 57 with (fail)
 go_cut [6,7] from 14 (fun a b wc=>W=wc/\a=.int .i64 x.nd/\b=.int .i64 x.mo)
 case first=>
  by_cases k3:x.kind=1
  ·
   have h1:Hid (x.nd=0):=if_pos k3;have h2:Hid (x.mo=20):=if_pos k3;have ey:=Ek k3;clear k3;go_wp2_with fail;go_meet;exact ⟨rfl,congrArg (Value.int .i64) h1.out.symm,congrArg (Value.int .i64) h2.out.symm⟩
  ·
   have h1:Hid (x.nd=1):=if_neg k3;have h2:Hid (x.mo=(x.guards.length:Int)):=if_neg k3;have ey:=C5 k3;clear k3;go_wp2_with fail;go_meet;exact ⟨rfl,congrArg (Value.int .i64) h1.out.symm,congrArg (Value.int .i64) h2.out.symm⟩
 case rest=>
 obtain ⟨rfl,rfl,rfl⟩:=hcut;go_upto_region 10 with (fail)
 have hS:(fun w'=>cI w' w.heap.size 5 x.dev/\cI w' w.heap.size 6 x.old/\cI w' w.heap.size 8 x.role/\cI w' w.heap.size 10 x.epoch.b/\cI w' w.heap.size 11 x.epoch.s/\cU w' w.heap.size 12 x.epoch.u/\cI w' w.heap.size 13 x.n/\cI w' w.heap.size 16 x.of.b/\cI w' w.heap.size 17 x.of.s/\cU w' w.heap.size 18 x.of.u/\cI w' w.heap.size 20 x.need/\cI w' w.heap.size 21 x.wait/\cU w' w.heap.size 23 x.pub) W.drew:=by
  and_intros
  · exact c5
  · exact c6
  · exact c8
  · exact d4
  · exact cz
  · exact de
  · exact dd
  · exact dm
  · exact dt
  · exact dj
  · exact da
  · exact dy
  · exact cy
 refine wp_region_held_drew (S:=fun w'=>cI w' w.heap.size 5 x.dev/\cI w' w.heap.size 6 x.old/\cI w' w.heap.size 8 x.role/\cI w' w.heap.size 10 x.epoch.b/\cI w' w.heap.size 11 x.epoch.s/\cU w' w.heap.size 12 x.epoch.u/\cI w' w.heap.size 13 x.n/\cI w' w.heap.size 16 x.of.b/\cI w' w.heap.size 17 x.of.s/\cU w' w.heap.size 18 x.of.u/\cI w' w.heap.size 20 x.need/\cI w' w.heap.size 21 x.wait/\cU w' w.heap.size 23 x.pub) (by kernel_rfl) hS (fun hHeld=> ?_);clear hHeld;try simp only [List.append_eq,List.cons_append,List.nil_append]
 replace c4:cS W.drew w.heap.size 4 x.pastA x.past.length x.pastC:=c4;replace c9:cS W.drew w.heap.size 9 x.pathA x.path.length x.pathC:=c9;replace bb:cS W.drew w.heap.size 15 x.refsA x.refs.length x.refsC:=bb;replace ca:cS W.drew w.heap.size 19 x.guardsA x.guards.length x.guardsC:=ca;replace ab:cS W.drew w.heap.size 22 x.boxesA x.boxes.length x.boxesC:=ab;replace aa:cS W.drew w.heap.size 24 x.histA x.hist.length x.histC:=aa;replace em:=em.drew;clear c2 c7 c5 c6 c8 d4 cz de dd dm dt dj da dy cy;generalize W.drew=w0 at*;refine tkH 1 hS (h:=tkH 2 hS (h:=tkH 3 hS (h:=tkH 6 hS (h:=tkH 7 hS (h:=tkH 10 hS (h:=tkH 12 hS (h:=tkH 13 hS (h:=tkH 16 hS (h:=tkH 17 hS (h:=tkH 20 hS (h:=tkH 21 hS (h:=?_))))))))))));simp only [zl];refine tkH 24 hS (h:=tkH 25 hS (h:=tkH 26 hS (h:=tkH 27 hS (h:=tkH 30 hS (h:=tkH 31 hS (h:=tkH 34 hS (h:=tkH 35 hS (h:=tkH 38 hS (h:=tkH 39 hS (h:=?_))))))))));simp only [zl];refine Rt (H:=Nat) 0 58 236 3 4 [4,8,14,18,22,28,32,36,40] mayIns (R6 x) (mayCv x) _ _ ((Array.replicate 44 true).setIfInBounds 42 false|>.setIfInBounds 43 false) w0 2 (by decide) (by kernel_rfl) (by kernel_rfl) (by kernel_rfl) underlying236 underlying3 underlying4 ?_ ?_ ?_ (by decide) ?_
 ·
  clear ac ct cr cu cs cp cm;refine List.forall_mem_cons.2 ⟨⟨62,_,_,_,_,#[.tmp 60,.tmp 61,.const (.int .i64 12)],rfl,by kernel_rfl,by kernel_rfl,fun a w' K ha hf hk=>Fg rfl func176 (by kernel_rfl) rfl (vals:=#[.int .i64 x.dev,.int .i64 x.ls,.int .i64 12]) (ha.trans (by kernel_rfl)) ((Dm x.dev x.ls 12 w').mono ?_)⟩,?_⟩
  ·
   rintro _ ad ⟨rfl,f⟩;exact ⟨_,rfl,hk ad f⟩
  refine List.forall_mem_cons.2 ⟨⟨65,_,_,_,_,#[.tmp 64,.const (.int .i64 1),.const (.int .i64 12)],rfl,by kernel_rfl,by kernel_rfl,fun a w' K ha hf hk=>Fg rfl func176 (by kernel_rfl) rfl (vals:=#[.int .i64 x.old,.int .i64 1,.int .i64 12]) (ha.trans (by kernel_rfl)) ((Dm x.old 1 12 w').mono ?_)⟩,?_⟩
  ·
   rintro _ ad ⟨rfl,f⟩;exact ⟨_,rfl,hk ad f⟩
  refine List.forall_mem_cons.2 ⟨⟨69,_,_,_,_,#[.tmp 68,.const (.int .i64 1),.const (.int .i64 3)],rfl,by kernel_rfl,by kernel_rfl,fun a w' K ha hf hk=>Fg rfl func176 (by kernel_rfl) rfl (vals:=#[.int .i64 x.role,.int .i64 1,.int .i64 3]) (ha.trans (by kernel_rfl)) ((Dm x.role 1 3 w').mono ?_)⟩,?_⟩
  ·
   rintro _ ad ⟨rfl,f⟩;exact ⟨_,rfl,hk ad f⟩
  refine List.forall_mem_cons.2 ⟨⟨72,_,_,_,_,#[.tmp 71,.const (.int .i64 0),.const (.int .i64 2147483647)],rfl,by kernel_rfl,by kernel_rfl,fun a w' K ha hf hk=>Fg rfl func176 (by kernel_rfl) rfl (vals:=#[.int .i64 x.n,.int .i64 0,.int .i64 2147483647]) (ha.trans (by kernel_rfl)) ((Dm x.n 0 2147483647 w').mono ?_)⟩,?_⟩
  ·
   rintro _ ad ⟨rfl,f⟩;exact ⟨_,rfl,hk ad f⟩
  refine List.forall_mem_cons.2 ⟨⟨75,_,_,_,_,#[.tmp 74,.const (.int .i64 0),.const (.int .i64 2147483647)],rfl,by kernel_rfl,by kernel_rfl,fun a w' K ha hf hk=>Fg rfl func176 (by kernel_rfl) rfl (vals:=#[.int .i64 x.wait,.int .i64 0,.int .i64 2147483647]) (ha.trans (by kernel_rfl)) ((Dm x.wait 0 2147483647 w').mono ?_)⟩,?_⟩
  ·
   rintro _ ad ⟨rfl,f⟩;exact ⟨_,rfl,hk ad f⟩
  refine List.forall_mem_cons.2 ⟨⟨80,_,_,_,_,#[.tmp 77,.tmp 78,.tmp 79],rfl,by kernel_rfl,by kernel_rfl,fun a w' K ha hf hk=>Fg rfl func176 (by kernel_rfl) rfl (vals:=#[.int .i64 x.need,.int .i64 x.nd,.int .i64 x.mo]) (ha.trans (by kernel_rfl)) ((Dm x.need x.nd x.mo w').mono ?_)⟩,?_⟩
  ·
   rintro _ ad ⟨rfl,f⟩;exact ⟨_,rfl,hk ad f⟩
  refine List.forall_mem_cons.2 ⟨⟨83,_,_,_,_,#[.tmp 82],rfl,by kernel_rfl,by kernel_rfl,fun a w' K ha hf hk=>Fg rfl func177 (by kernel_rfl) rfl (vals:=#[.agg x.epoch.V]) (ha.trans (by kernel_rfl)) ((J8 x.epoch w').mono ?_)⟩,?_⟩
  ·
   rintro _ ad ⟨rfl,f⟩;exact ⟨_,rfl,hk ad f⟩
  refine List.forall_mem_cons.2 ⟨⟨86,_,_,_,_,#[.tmp 85],rfl,by kernel_rfl,by kernel_rfl,fun a w' K ha hf hk=>Fg rfl func177 (by kernel_rfl) rfl (vals:=#[.agg x.of.V]) (ha.trans (by kernel_rfl)) ((J8 x.of w').mono ?_)⟩,?_⟩
  ·
   rintro _ ad ⟨rfl,f⟩;exact ⟨_,rfl,hk ad f⟩
  refine List.forall_mem_cons.2 ⟨⟨89,_,_,_,_,#[.tmp 88],rfl,by kernel_rfl,by kernel_rfl,fun a w' K ha hf hk=>Fg rfl func178 (by kernel_rfl) rfl (vals:=#[.int .u64 (x.pub:Int)]) (ha.trans (by kernel_rfl)) ((J6 x.pub w').mono ?_)⟩,?_⟩
  ·
   rintro _ ad ⟨rfl,f⟩;exact ⟨_,rfl,hk ad f⟩
  exact fun y hy=>absurd hy (by simp)
 ·
  clear ac ct cr cu cs cp cm;unfold mayIns;refine List.forall_mem_cons.2 ⟨Or.inr ⟨4,by kernel_rfl,rfl⟩,?_⟩;refine List.forall_mem_cons.2 ⟨Or.inr ⟨8,by kernel_rfl,rfl⟩,?_⟩;refine List.forall_mem_cons.2 ⟨Or.inl ⟨by kernel_rfl,rfl⟩,?_⟩;refine List.forall_mem_cons.2 ⟨Or.inr ⟨14,by kernel_rfl,rfl⟩,?_⟩;refine List.forall_mem_cons.2 ⟨Or.inr ⟨18,by kernel_rfl,rfl⟩,?_⟩;refine List.forall_mem_cons.2 ⟨Or.inr ⟨22,by kernel_rfl,rfl⟩,?_⟩;refine List.forall_mem_cons.2 ⟨Or.inr ⟨28,by kernel_rfl,rfl⟩,?_⟩;refine List.forall_mem_cons.2 ⟨Or.inr ⟨32,by kernel_rfl,rfl⟩,?_⟩;refine List.forall_mem_cons.2 ⟨Or.inr ⟨36,by kernel_rfl,rfl⟩,?_⟩;refine List.forall_mem_cons.2 ⟨Or.inr ⟨40,by kernel_rfl,rfl⟩,?_⟩;exact fun y hy=>absurd hy (by simp)
 ·
  intro w' hf;obtain ⟨q5,q6,q8,d9,d8,en,ek,er,ep,el,ea,es,eb⟩:=hS
  and_intros<;>first|exact hf.cell q5 zq|exact hf.cell q6 zq|exact hf.cell q8 zq|exact hf.cell d9 zq|exact hf.cell d8 zq|exact hf.cell en zq|exact hf.cell ek zq|exact hf.cell er zq|exact hf.cell ep zq|exact hf.cell el zq|exact hf.cell ea zq|exact hf.cell es zq|exact hf.cell eb zq
 intro b w1 D n hF hb ev hn cc;rw [Ru ([none,none,none,none,none,none,none,none,none,none,none,none,none,none,none,none,none,none,none,none,none,none,none,none,none,none,none,none,none,none,none,none,none,none,none,none,none,none,none,none,none,none,none,none,none,none,none,none,none,none,none,none,none,none,none,none,none,none,some 0,none,none,none,some 4,none,none,some 8,none,none,none,some 14,none,none,some 18,none,none,some 22,none,none,none,none,some 28,none,none,some 32,none,none,some 36,none,none,some 40,none,none,none,none,none,none,none,none,none,none,none,none,none,none,none,none,none,none,none,none,none,none,none,none,none,none,none,none,none,none,none,none,none,none,none,none,none,none,none,none,none,none,none,none,none,none]) (by kernel_rfl) (by decide)];dsimp only [List.zipWith_cons_cons,List.zipWith_nil_left];simp only [if_true]
 have fa:(fun w'=>cI w' w.heap.size 5 x.dev/\cI w' w.heap.size 6 x.old/\cI w' w.heap.size 8 x.role/\cI w' w.heap.size 10 x.epoch.b/\cI w' w.heap.size 11 x.epoch.s/\cU w' w.heap.size 12 x.epoch.u/\cI w' w.heap.size 13 x.n/\cI w' w.heap.size 16 x.of.b/\cI w' w.heap.size 17 x.of.s/\cU w' w.heap.size 18 x.of.u/\cI w' w.heap.size 20 x.need/\cI w' w.heap.size 21 x.wait/\cU w' w.heap.size 23 x.pub) w1:=by
  obtain ⟨q5,q6,q8,d9,d8,en,ek,er,ep,el,ea,es,eb⟩:=hS
  and_intros<;>first|exact hF.cell q5 zq|exact hF.cell q6 zq|exact hF.cell q8 zq|exact hF.cell d9 zq|exact hF.cell d8 zq|exact hF.cell en zq|exact hF.cell ek zq|exact hF.cell er zq|exact hF.cell ep zq|exact hF.cell el zq|exact hF.cell ea zq|exact hF.cell es zq|exact hF.cell eb zq
 refine tkH 42 fa (h:=?_);simp only [zl];refine O7 43 (by kernel_rfl) rfl (fun K hK=> ?_);refine Rv rfl rfl ev (int_keyed underlying3) underlying236 ?_;intro w2 d7 fo fx;have b9:=Fr.ofGrown fo (fun k hk=>by cases hk);have dn:=hF.trans b9 zr;have fl:=em.trans dn zr;refine hK.out _ _ ?_ (fun _=> ?_)
 ·
  obtain ⟨q5,q6,q8,d9,d8,en,ek,er,ep,el,ea,es,eb⟩:=fa
  and_intros<;>first|exact b9.cell q5 zq|exact b9.cell q6 zq|exact b9.cell q8 zq|exact b9.cell d9 zq|exact b9.cell d8 zq|exact b9.cell en zq|exact b9.cell ek zq|exact b9.cell er zq|exact b9.cell ep zq|exact b9.cell el zq|exact b9.cell ea zq|exact b9.cell es zq|exact b9.cell eb zq
 clear hK K;rw [Ad];simp only [zl];refine oD ?_;have fu:w.heap.size<w1.heap.size:=Nat.lt_of_lt_of_le (World.block_lt_of_cell? _ _ ca) hF.size;replace c4:=dn.cell c4 zq;replace c9:=dn.cell c9 zq;replace bb:=dn.cell bb zq;replace ca:=dn.cell ca zq;replace ab:=dn.cell ab zq;replace aa:=dn.cell aa zq;have e9:=(em.trans hF zr).size;clear fa hS dn b9 hF em;go_simp;go_wp2_with fail
 go_loopw [] (fun wr=>∃(co:Lit->Bool) (ew:Nat),wr.ranges zp 3 (plainElem zp 4) b w1.heap.size n D co ew/\Hid (RA x has co)/\Fr Non w wr/\Fr (fun k=>w1.heap.size<=k) w2 wr) (fun wr=>wr.rangeLeft b w1.heap.size)
 case atStart=>exact ⟨_,_,d7,RA.start (fun j hj=>by rw [(cc.2 _).1,Option.isSome_map]),fl,Fr.refl _ _⟩
 case round=>
  obtain ⟨co,ew,d7,e8,hF,d5⟩:=hrel;clear fl
  go_wp2_with (first
   |(at_next;refine Rw _ rfl _ rfl 3 4 underlying3 underlying4 b w1.heap.size n D co ew rfl d7 ?_ ?_)
   |go_in)
  ·
   intro fs fd;have hd:=RA.done e8 fd;replace ac:Hid (LB=(g1&&(g2&&(g3&&(g4&&(g5&&g6)))))):=by show _=_;rw [ac.out,hd];rfl
   subst fs;clear d7 hd fd e8 cc;replace c4:=d5.cell c4 (by show ¬w1.heap.size<=w.heap.size;omega);replace c9:=d5.cell c9 (by show ¬w1.heap.size<=w.heap.size;omega);replace bb:=d5.cell bb (by show ¬w1.heap.size<=w.heap.size;omega);replace ca:=d5.cell ca (by show ¬w1.heap.size<=w.heap.size;omega);replace ab:=d5.cell ab (by show ¬w1.heap.size<=w.heap.size;omega);replace aa:=d5.cell aa (by show ¬w1.heap.size<=w.heap.size;omega)
   cases g1
   ·
    have hv:Hid (false=LB):=ac.out.symm;clear ac;go_wp2_with (first|(go_at_call 184;(with_reducible refine (ct.out _ hF).mono ?_);rintro _ v0 ⟨rfl,e0⟩;have hF:=hF.trans e0 zr;obtain ⟨bb,c4,c9,ab,aa⟩:=zk5 e0 bb c4 c9 ab aa)|(go_at_call 185;(with_reducible refine (cr.out _ hF).mono ?_);rintro _ v1 ⟨rfl,e1⟩;have hF:=hF.trans e1 zr;obtain ⟨c4,c9,ab,aa⟩:=zk4 e1 c4 c9 ab aa)|(go_at_call 187;(with_reducible refine (cu.out _ hF).mono ?_);rintro _ v2 ⟨rfl,e2⟩;have hF:=hF.trans e2 zr;obtain ⟨c9,ab,aa⟩:=zk3 e2 c9 ab aa)|(go_at_call 188;(with_reducible refine (cs.out _ hF).mono ?_);rintro _ v3 ⟨rfl,e3⟩;have hF:=hF.trans e3 zr;obtain ⟨ab,aa⟩:=zk2 e3 ab aa)|(go_at_call 180;(with_reducible refine (cp.out _ hF).mono ?_);rintro _ v4 ⟨rfl,e4⟩;have hF:=hF.trans e4 zr;have aa:=e4.cell aa zq)|(go_at_call 189;(with_reducible refine (cm.out _ hF).mono ?_);rintro _ v5 ⟨rfl,e5⟩;have hF:=hF.trans e5 zr))
    go_ret
    exact ⟨congrArg (fun z=>ze (.bool z)) hv.out,hF⟩
   cases g2
   ·
    have hv:Hid (false=LB):=ac.out.symm;clear ac;go_wp2_with (first|(go_at_call 184;(with_reducible refine (ct.out _ hF).mono ?_);rintro _ v0 ⟨rfl,e0⟩;have hF:=hF.trans e0 zr;obtain ⟨bb,c4,c9,ab,aa⟩:=zk5 e0 bb c4 c9 ab aa)|(go_at_call 185;(with_reducible refine (cr.out _ hF).mono ?_);rintro _ v1 ⟨rfl,e1⟩;have hF:=hF.trans e1 zr;obtain ⟨c4,c9,ab,aa⟩:=zk4 e1 c4 c9 ab aa)|(go_at_call 187;(with_reducible refine (cu.out _ hF).mono ?_);rintro _ v2 ⟨rfl,e2⟩;have hF:=hF.trans e2 zr;obtain ⟨c9,ab,aa⟩:=zk3 e2 c9 ab aa)|(go_at_call 188;(with_reducible refine (cs.out _ hF).mono ?_);rintro _ v3 ⟨rfl,e3⟩;have hF:=hF.trans e3 zr;obtain ⟨ab,aa⟩:=zk2 e3 ab aa)|(go_at_call 180;(with_reducible refine (cp.out _ hF).mono ?_);rintro _ v4 ⟨rfl,e4⟩;have hF:=hF.trans e4 zr;have aa:=e4.cell aa zq)|(go_at_call 189;(with_reducible refine (cm.out _ hF).mono ?_);rintro _ v5 ⟨rfl,e5⟩;have hF:=hF.trans e5 zr))
    go_ret
    exact ⟨congrArg (fun z=>ze (.bool z)) hv.out,hF⟩
   cases g3
   ·
    have hv:Hid (false=LB):=ac.out.symm;clear ac;go_wp2_with (first|(go_at_call 184;(with_reducible refine (ct.out _ hF).mono ?_);rintro _ v0 ⟨rfl,e0⟩;have hF:=hF.trans e0 zr;obtain ⟨bb,c4,c9,ab,aa⟩:=zk5 e0 bb c4 c9 ab aa)|(go_at_call 185;(with_reducible refine (cr.out _ hF).mono ?_);rintro _ v1 ⟨rfl,e1⟩;have hF:=hF.trans e1 zr;obtain ⟨c4,c9,ab,aa⟩:=zk4 e1 c4 c9 ab aa)|(go_at_call 187;(with_reducible refine (cu.out _ hF).mono ?_);rintro _ v2 ⟨rfl,e2⟩;have hF:=hF.trans e2 zr;obtain ⟨c9,ab,aa⟩:=zk3 e2 c9 ab aa)|(go_at_call 188;(with_reducible refine (cs.out _ hF).mono ?_);rintro _ v3 ⟨rfl,e3⟩;have hF:=hF.trans e3 zr;obtain ⟨ab,aa⟩:=zk2 e3 ab aa)|(go_at_call 180;(with_reducible refine (cp.out _ hF).mono ?_);rintro _ v4 ⟨rfl,e4⟩;have hF:=hF.trans e4 zr;have aa:=e4.cell aa zq)|(go_at_call 189;(with_reducible refine (cm.out _ hF).mono ?_);rintro _ v5 ⟨rfl,e5⟩;have hF:=hF.trans e5 zr))
    go_ret
    exact ⟨congrArg (fun z=>ze (.bool z)) hv.out,hF⟩
   cases g4
   ·
    have hv:Hid (false=LB):=ac.out.symm;clear ac;go_wp2_with (first|(go_at_call 184;(with_reducible refine (ct.out _ hF).mono ?_);rintro _ v0 ⟨rfl,e0⟩;have hF:=hF.trans e0 zr;obtain ⟨bb,c4,c9,ab,aa⟩:=zk5 e0 bb c4 c9 ab aa)|(go_at_call 185;(with_reducible refine (cr.out _ hF).mono ?_);rintro _ v1 ⟨rfl,e1⟩;have hF:=hF.trans e1 zr;obtain ⟨c4,c9,ab,aa⟩:=zk4 e1 c4 c9 ab aa)|(go_at_call 187;(with_reducible refine (cu.out _ hF).mono ?_);rintro _ v2 ⟨rfl,e2⟩;have hF:=hF.trans e2 zr;obtain ⟨c9,ab,aa⟩:=zk3 e2 c9 ab aa)|(go_at_call 188;(with_reducible refine (cs.out _ hF).mono ?_);rintro _ v3 ⟨rfl,e3⟩;have hF:=hF.trans e3 zr;obtain ⟨ab,aa⟩:=zk2 e3 ab aa)|(go_at_call 180;(with_reducible refine (cp.out _ hF).mono ?_);rintro _ v4 ⟨rfl,e4⟩;have hF:=hF.trans e4 zr;have aa:=e4.cell aa zq)|(go_at_call 189;(with_reducible refine (cm.out _ hF).mono ?_);rintro _ v5 ⟨rfl,e5⟩;have hF:=hF.trans e5 zr))
    go_ret
    exact ⟨congrArg (fun z=>ze (.bool z)) hv.out,hF⟩
   cases g5
   ·
    have hv:Hid (false=LB):=ac.out.symm;clear ac;go_wp2_with (first|(go_at_call 184;(with_reducible refine (ct.out _ hF).mono ?_);rintro _ v0 ⟨rfl,e0⟩;have hF:=hF.trans e0 zr;obtain ⟨bb,c4,c9,ab,aa⟩:=zk5 e0 bb c4 c9 ab aa)|(go_at_call 185;(with_reducible refine (cr.out _ hF).mono ?_);rintro _ v1 ⟨rfl,e1⟩;have hF:=hF.trans e1 zr;obtain ⟨c4,c9,ab,aa⟩:=zk4 e1 c4 c9 ab aa)|(go_at_call 187;(with_reducible refine (cu.out _ hF).mono ?_);rintro _ v2 ⟨rfl,e2⟩;have hF:=hF.trans e2 zr;obtain ⟨c9,ab,aa⟩:=zk3 e2 c9 ab aa)|(go_at_call 188;(with_reducible refine (cs.out _ hF).mono ?_);rintro _ v3 ⟨rfl,e3⟩;have hF:=hF.trans e3 zr;obtain ⟨ab,aa⟩:=zk2 e3 ab aa)|(go_at_call 180;(with_reducible refine (cp.out _ hF).mono ?_);rintro _ v4 ⟨rfl,e4⟩;have hF:=hF.trans e4 zr;have aa:=e4.cell aa zq)|(go_at_call 189;(with_reducible refine (cm.out _ hF).mono ?_);rintro _ v5 ⟨rfl,e5⟩;have hF:=hF.trans e5 zr))
    go_ret
    exact ⟨congrArg (fun z=>ze (.bool z)) hv.out,hF⟩
   have hv:Hid (g6=LB):=ac.out.symm;clear ac;go_wp2_with (first|(go_at_call 184;(with_reducible refine (ct.out _ hF).mono ?_);rintro _ v0 ⟨rfl,e0⟩;have hF:=hF.trans e0 zr;obtain ⟨bb,c4,c9,ab,aa⟩:=zk5 e0 bb c4 c9 ab aa)|(go_at_call 185;(with_reducible refine (cr.out _ hF).mono ?_);rintro _ v1 ⟨rfl,e1⟩;have hF:=hF.trans e1 zr;obtain ⟨c4,c9,ab,aa⟩:=zk4 e1 c4 c9 ab aa)|(go_at_call 187;(with_reducible refine (cu.out _ hF).mono ?_);rintro _ v2 ⟨rfl,e2⟩;have hF:=hF.trans e2 zr;obtain ⟨c9,ab,aa⟩:=zk3 e2 c9 ab aa)|(go_at_call 188;(with_reducible refine (cs.out _ hF).mono ?_);rintro _ v3 ⟨rfl,e3⟩;have hF:=hF.trans e3 zr;obtain ⟨ab,aa⟩:=zk2 e3 ab aa)|(go_at_call 180;(with_reducible refine (cp.out _ hF).mono ?_);rintro _ v4 ⟨rfl,e4⟩;have hF:=hF.trans e4 zr;have aa:=e4.cell aa zq)|(go_at_call 189;(with_reducible refine (cm.out _ hF).mono ?_);rintro _ v5 ⟨rfl,e5⟩;have hF:=hF.trans e5 zr))
   go_ret
   exact ⟨congrArg (fun z=>ze (.bool z)) hv.out,hF⟩
  ·
   intro k v w3 fb hv fv d6 eu e7 fq ft;clear ct cr cu cs cp cm c4 c9 bb ca ab aa;obtain ⟨c,rfl,fm⟩:=cc.entry hv;obtain ⟨y,et,fg⟩:=Option.map_eq_some_iff.1 fm;have fi:=List.find?_some et;obtain ⟨j,hj,hk,fh⟩:=Ag9 x y (List.mem_of_find?_eq_some et);obtain rfl:y.2.1=k:=by simpa using fi
   rw [hk] at fv d6 ft ⊢;have hc:x.mayB j=c:=by rw [<- fh,fg]
   have fc:Fr (fun k=>some w1.heap.size=some k) wr w3:=Fr.grown (Fr.refl _ _) e7 (fun k hk _=>hk);have ff:Fr Non w w3:=hF.trans fc (fun i hi e=>by cases e;have:=e9;omega);have ez:Fr (fun k=>w1.heap.size<=k) w2 w3:=d5.trans fc (fun i hi e=>by cases e;exact Nat.le_refl _);have fp:w3.rangeLeft b w1.heap.size<wr.rangeLeft b w1.heap.size:=by rw [d6.left_eq,d7.left_eq];exact eu
   have fk:=Ad7 has j hhas hj;have fw:(bits .and .i64 (has:Int) ((2^j:Nat):Int) !=0)=has.testBit j:=by rw [bne,<- Bool.not_not (has.testBit j),<- fk];rfl
   have ei:=lh (RA.step (x:=x) (has:=has) (j:=j) e8 hj);have e6:=lh (fun h1 h2=>Ah1 (x:=x) (has:=has) hj h1 h2);generalize hpj:((2^j:Nat):Int)=pj at*;clear hv fm et fg fi hk fh d7 fk cc;generalize htb:has.testBit j=tb at*;generalize x.mayB j=mj at*;subst hc
   cases tb<;>cases mj
   case true.false=>
    have hv:Hid (false=LB):=by show _=_;rw [ac.out,e6.out rfl rfl];rfl
    clear ac e6 ei;go_wp2_with fail
    go_ret
    exact ⟨congrArg (fun z=>ze (.bool z)) hv.out,ff⟩
   all_goals
    clear e6 ac;go_wp2_with fail;exact ⟨⟨_,fb,d6,ei.out (by decide),ff,ez⟩,fp⟩
end Oq
end
section
open Go.RowKit
namespace Oq
attribute [local go_sem] Bool.not_false Bool.not_true
end Oq
end
end Go.Proofs.YtmcpnjoomlgmlaaGreatDoor
