/-
  Contracts of the functions that the claim's statement reaches, walked one by one (part 9).
  Conditions: as each theorem says.
-/
import Derived.Test.YtihfebhfgliojaaGreatDoorGrW8
set_option maxRecDepth 100000
set_option maxHeartbeats 16000000
open List renaming getElem?_eq_getElem->An3,mem_of_getElem?->An4,take_of_length_le->An5,length_map->An6,getElem?_map->An7
open Go.Proofs.Tryz
open Go.Proofs.Tryz renaming prog->zp
open Go.Lib renaming hid->lh
open List renaming set->zl
open Go.Ending renaming returned->ze
namespace Go.Proofs.YtihfebhfgliojaaGreatDoor
attribute [local go_sem ↓] Go.wp_at_zero Go.wp_at_succ
section
open Go.RowKit Go.Maps
namespace Oq
attribute [local go_sem] Bool.not_false Bool.not_true
def OpL.ls (x:OpL):Int:=if x.kind=3 then 0 else 1
def OpL.nd (x:OpL):Int:=if x.kind=1 then 0 else 1
def OpL.mo (x:OpL):Int:=if x.kind=1 then 20 else (x.guards.length:Int)
def OpL.mb (x:OpL):Bool:=if x.kind=3 then ((inR x.mem 1 8&&x.dev==0)||(x.mem==0&&x.dev !=0)) else inR x.mem 1 8
def OpL.mayB (x:OpL) (j:Nat):Bool:=match j with
 |0=>inR x.dev x.ls 12
 |1=>inR x.old 1 12
 |2=>x.mb
 |3=>inR x.role 1 3
 |5=>x.epoch.named
 |6=>inR x.n 0 2147483647
 |9=>x.of.named
 |11=>inR x.need x.nd x.mo
 |12=>inR x.wait 0 2147483647
 |14=>Ar x.pub
 |_=>true
def OpL.itemsL (x:OpL):Bool:=x.guards.all (fun n=>inR n 1 12)&&(x.refs.all fOk&&(x.past.all Id.named&&(x.path.all (fun y=>Ar y.p&&y.xs.all Bx.may)&&(x.boxes.all Bx.may&&x.hist.all (fun y=>y.f.named)))))
def OpL.loopB (x:OpL) (has:Nat):Bool:=(List.range 16).all (fun j=> !has.testBit j||x.mayB j)
def OpL.rngB (x:OpL) (has:Nat):Bool:=inR x.by_ 1 12&&(inR x.sq 1 2147483647&&(inR x.at_ 0 2147483647&&(x.loopB has&&x.itemsL)))
def RA (x:OpL) (has:Nat) (left:Lit->Bool):Prop:=∀j,j<16->left (.int .i64 ((2^j:Nat):Int))=false->has.testBit j=true->x.mayB j=true
def mayIns:List (Nat × Int × Nat):=[(5,(1:Int),62),(9,(2:Int),65),(11,(4:Int),66),(15,(8:Int),69),(19,(64:Int),72),(23,(4096:Int),75),(29,(2048:Int),80),(33,(32:Int),83),(37,(512:Int),86),(41,(16384:Int),89)]
def Qd (x:OpL) (t:Nat):Bool:=match t with
 |62=>x.mayB 0
 |65=>x.mayB 1
 |66=>x.mayB 2
 |69=>x.mayB 3
 |72=>x.mayB 6
 |75=>x.mayB 12
 |80=>x.mayB 11
 |83=>x.mayB 5
 |86=>x.mayB 9
 |89=>x.mayB 14
 |_=>false
def mayCv (x:OpL) (t:Nat):Bool:=match t with
 |4=>x.mayB 0
 |8=>x.mayB 1
 |14=>x.mayB 3
 |18=>x.mayB 6
 |22=>x.mayB 12
 |28=>x.mayB 11
 |32=>x.mayB 5
 |36=>x.mayB 9
 |40=>x.mayB 14
 |_=>false
theorem Zs (x:OpL):∀y∈mayIns,∃j,j<16/\y.2.1=((2^j:Nat):Int)/\Qd x y.2.2=x.mayB j:=by
 unfold mayIns;refine List.forall_mem_cons.2 ⟨⟨0,by decide,rfl,rfl⟩,?_⟩;refine List.forall_mem_cons.2 ⟨⟨1,by decide,rfl,rfl⟩,?_⟩;refine List.forall_mem_cons.2 ⟨⟨2,by decide,rfl,rfl⟩,?_⟩;refine List.forall_mem_cons.2 ⟨⟨3,by decide,rfl,rfl⟩,?_⟩;refine List.forall_mem_cons.2 ⟨⟨6,by decide,rfl,rfl⟩,?_⟩;refine List.forall_mem_cons.2 ⟨⟨12,by decide,rfl,rfl⟩,?_⟩;refine List.forall_mem_cons.2 ⟨⟨11,by decide,rfl,rfl⟩,?_⟩;refine List.forall_mem_cons.2 ⟨⟨5,by decide,rfl,rfl⟩,?_⟩;refine List.forall_mem_cons.2 ⟨⟨9,by decide,rfl,rfl⟩,?_⟩;refine List.forall_mem_cons.2 ⟨⟨14,by decide,rfl,rfl⟩,?_⟩;exact fun y hy=>absurd hy (by simp)
theorem Zt:∀j,j<16->(mayIns.find? (fun y=>y.2.1==((2^j:Nat):Int))).isSome=false->j=4\/j=7\/j=8\/j=10\/j=13\/j=15:=by decide
theorem RA.start {x:OpL} {has:Nat} {left:Lit->Bool} (h:∀j,j<16->left (.int .i64 ((2^j:Nat):Int))=(mayIns.find? (fun y=>y.2.1==((2^j:Nat):Int))).isSome):RA x has left:=by
 intro j hj hl _;rw [h j hj] at hl
 rcases Zt j hj hl with rfl|rfl|rfl|rfl|rfl|rfl<;>rfl
theorem RA.step {x:OpL} {has j:Nat} {left:Lit->Bool} (h:RA x has left) (hj:j<16) (hb:has.testBit j=true->x.mayB j=true):RA x has (fun z=>left z&& !z.sameKey (.int .i64 ((2^j:Nat):Int))):=by
 intro i hi hl hbi
 by_cases hij:i=j
 ·
  subst hij;exact hb hbi
 ·
  replace hl:(left (.int .i64 ((2^i:Nat):Int))&& !(Lit.int .i64 ((2^i:Nat):Int)).sameKey (.int .i64 ((2^j:Nat):Int)))=false:=hl;rw [P8 hij] at hl;exact h i hi (by simpa using hl) hbi
theorem RA.done {x:OpL} {has:Nat} {left:Lit->Bool} (h:RA x has left) (hl:∀kl,left kl=false):x.loopB has=true:=by
 unfold OpL.loopB;rw [List.all_eq_true];intro j hj;have hj':j<16:=by simpa using hj
 cases hb:has.testBit j with
 |false=>rfl
 |true=>rw [h j hj' (hl _) hb];rfl
theorem Zu {x:OpL} {has j:Nat} (hj:j<16) (hb:has.testBit j=true) (hm:x.mayB j=false):x.loopB has=false:=by
 unfold OpL.loopB;rw [List.all_eq_false];exact ⟨j,by simpa using hj,by rw [hb,hm];decide⟩
theorem Zv (x:OpL) (has:Nat) (hhas:has<65536) (w:World) (hat:x.at w w.heap.size) (hok:x.op.ok):Calls zp 117 #[.agg x.cells,.int .i64 (has:Int)] w (Ae (x.rngB has) w):=by
 have bb:=Blk.new w 44 x.cells;have f0:Fr Non w (w.alloc (.cells x.cells 44)):=(Fr.refl Non w).alloc _;have c0:cI (w.alloc (.cells x.cells 44)) w.heap.size 0 x.by_:=bb.cell 0;have c1:cI (w.alloc (.cells x.cells 44)) w.heap.size 1 x.sq:=bb.cell 1;have c2:cI (w.alloc (.cells x.cells 44)) w.heap.size 2 x.kind:=bb.cell 2;have c3:cI (w.alloc (.cells x.cells 44)) w.heap.size 3 x.at_:=bb.cell 3;have c4:cS (w.alloc (.cells x.cells 44)) w.heap.size 4 x.pastA x.past.length x.pastC:=bb.cell 4;have c5:cI (w.alloc (.cells x.cells 44)) w.heap.size 5 x.dev:=bb.cell 5;have c6:cI (w.alloc (.cells x.cells 44)) w.heap.size 6 x.old:=bb.cell 6;have c7:cI (w.alloc (.cells x.cells 44)) w.heap.size 7 x.mem:=bb.cell 7;have c8:cI (w.alloc (.cells x.cells 44)) w.heap.size 8 x.role:=bb.cell 8;have c9:cS (w.alloc (.cells x.cells 44)) w.heap.size 9 x.pathA x.path.length x.pathC:=bb.cell 9;have d3:cI (w.alloc (.cells x.cells 44)) w.heap.size 10 x.epoch.b:=bb.cell 10;have dp:cI (w.alloc (.cells x.cells 44)) w.heap.size 11 x.epoch.s:=bb.cell 11;have cv:cU (w.alloc (.cells x.cells 44)) w.heap.size 12 x.epoch.u:=bb.cell 12;have dz:cI (w.alloc (.cells x.cells 44)) w.heap.size 13 x.n:=bb.cell 13;have ba:cS (w.alloc (.cells x.cells 44)) w.heap.size 15 x.refsA x.refs.length x.refsC:=bb.cell 15;have dc:cI (w.alloc (.cells x.cells 44)) w.heap.size 16 x.of.b:=bb.cell 16;have cx:cI (w.alloc (.cells x.cells 44)) w.heap.size 17 x.of.s:=bb.cell 17;have d1:cU (w.alloc (.cells x.cells 44)) w.heap.size 18 x.of.u:=bb.cell 18;have cb:cS (w.alloc (.cells x.cells 44)) w.heap.size 19 x.guardsA x.guards.length x.guardsC:=bb.cell 19;have dn:cI (w.alloc (.cells x.cells 44)) w.heap.size 20 x.need:=bb.cell 20;have dk:cI (w.alloc (.cells x.cells 44)) w.heap.size 21 x.wait:=bb.cell 21;have ab:cS (w.alloc (.cells x.cells 44)) w.heap.size 22 x.boxesA x.boxes.length x.boxesC:=bb.cell 22;have cy:cU (w.alloc (.cells x.cells 44)) w.heap.size 23 x.pub:=bb.cell 23;have aa:cS (w.alloc (.cells x.cells 44)) w.heap.size 24 x.histA x.hist.length x.histC:=bb.cell 24;have cc:x.guards.length<=1000000:=by have h:=hok.guards.1;rw [show x.op.guards=x.guards from rfl] at h;omega
 have dm:x.refs.length<=1000000:=by have h:=hok.refs.1;rw [show x.op.refs=x.refs from rfl] at h;omega
 have ch:x.boxes.length<=1000000:=by have h:=hok.boxes.1;rw [show x.op.boxes=x.boxes from rfl] at h;omega
 have ci:∀y∈x.path,y.xs.length<=1000000:=fun y hy=>by have h:=(hok.path.2 y.nd (List.mem_map.2 ⟨y,hy,rfl⟩)).2.1;rw [show y.nd.xs=y.xs from rfl] at h;omega
 have de:x.past.length<=1000000:=by have h:=hok.past.1;rw [show x.op.past=x.past from rfl] at h;omega
 have db:x.path.length<=1000000:=by have h:=hok.path.1;rw [show x.op.path=x.path.map NdL.nd from rfl,An6] at h;omega
 have dg:x.hist.length<=1000000:=by have h:=hok.hist.1;rw [show x.op.hist=x.hist.map SlL.sl from rfl,An6] at h;omega
 have d4:=lh (fun w'=>C7 x.by_ 1 12 w');have dl:=lh (fun w'=>C7 x.sq 1 2147483647 w');have cw:=lh (fun w'=>C7 x.at_ 0 2147483647 w');have km:=lh (fun w'=>C7 x.mem 1 8 w');have cr:=lh (fun (w':World) (h:Fr Non w w')=>Yz w.heap.size x.guards.length x.guardsC x.guardsA x.guards (fun n=>inR n 1 12) w' rfl (hat.guards.1.fr h zr) cc (fun y _ ad _=>Zn y ad));have cq:=lh (fun (w':World) (h:Fr Non w w')=>Y5 w.heap.size x.refs.length x.refsC x.refsA x.refs fOk w' rfl (hat.refs.1.fr h zr) dm (fun y _ ad _=>Iu y ad));have cu:=lh (fun (w':World) (h:Fr Non w w')=>Y8 w.heap.size x.past.length x.pastC x.pastA x.past Id.named w' rfl (hat.past.1.fr h zr) de (fun y _ ad _=>Iw y ad));have ct:=lh (fun (w':World) (h:Fr Non w w')=>Zd w.heap.size x.path.length x.pathC x.pathA x.path (fun y=>Ar y.p&&y.xs.all Bx.may) w' rfl (hat.path.1.fr h zr) db (fun y hy ad h'=>Zr w.heap.size y ad ((hat.nodes y hy).fr (h.trans h' zr) zr) (ci y hy)));have co:=lh (fun (w':World) (h:Fr Non w w')=>Qb w.heap.size x.boxes.length x.boxesC x.boxesA x.boxes Bx.may w' rfl (hat.boxes.1.fr h zr) ch (fun y _ ad _=>Qc y ad));have cs:=lh (fun (w':World) (h:Fr Non w w')=>Zj w.heap.size x.hist.length x.histC x.histA x.hist (fun y=>y.f.named) w' rfl (hat.hist.1.fr h zr) dg (fun y _ ad _=>Zo y ad));have ac:Hid (x.rngB has=(inR x.by_ 1 12&&(inR x.sq 1 2147483647&&(inR x.at_ 0 2147483647&&(x.loopB has&&(x.guards.all (fun n=>inR n 1 12)&&(x.refs.all fOk&&(x.past.all Id.named&&(x.path.all (fun y=>Ar y.p&&y.xs.all Bx.may)&&(x.boxes.all Bx.may&&x.hist.all (fun y=>y.f.named))))))))))):=rfl;generalize x.rngB has=LB at*;generalize inR x.by_ 1 12=b1 at*;generalize inR x.sq 1 2147483647=b2 at*;generalize inR x.at_ 0 2147483647=b3 at*;generalize (x.guards.all (fun n=>inR n 1 12))=g1 at*;generalize (x.refs.all fOk)=g2 at*;generalize (x.past.all Id.named)=g3 at*;generalize (x.path.all (fun y=>Ar y.p&&y.xs.all Bx.may))=g4 at*;generalize (x.boxes.all Bx.may)=g5 at*;generalize (x.hist.all (fun y=>y.f.named))=g6 at*;generalize x.cells=CS at*;clear bb hat hok de db dg cc dm ci ch
 cases b1
 ·
  have hv:Hid (false=LB):=by show _=_;rw [ac.out];rfl
  clear ac;go_enter func117,ntmps117;go_wp2_with (first
  |(go_at_call 150;(with_reducible refine (d4.out _).mono ?_);rintro _ v1 ⟨rfl,f1⟩;have dw:=f0.trans f1 zr;clear d4;obtain ⟨cm,b8,bp,bx,bi,bo,bc,bq⟩:=zk8 f1 c1 c2 c3 c4 c5 c6 c7 c8;obtain ⟨bk,a8,ak,az,ao,av,a0,ax⟩:=zk8 f1 c9 d3 dp cv dz ba dc cx;obtain ⟨ar,aj,al,a7,ag,ah,a2⟩:=zk7 f1 d1 cb dn dk ab cy aa)
  |(go_at_call 150;(with_reducible refine (dl.out _).mono ?_);rintro _ v2 ⟨rfl,f2⟩;have dr:=dw.trans f2 zr;clear dl;obtain ⟨bh,cp,bf,bw,bv,b5,bs,br⟩:=zk8 f2 b8 bp bx bi bo bc bq bk;obtain ⟨aw,au,a4,ai,ay,ae,a9,a1⟩:=zk8 f2 a8 ak az ao av a0 ax ar;obtain ⟨ap,aq,a3,a5,a6,af⟩:=zk6 f2 aj al a7 ag ah a2)
  |(go_at_call 150;(with_reducible refine (cw.out _).mono ?_);rintro _ v3 ⟨rfl,f3⟩;have ek:=dr.trans f3 zr;clear cw;obtain ⟨cl,cf,cj,ck,cd,cg,ce,b7⟩:=zk8 f3 bh bf bw bv b5 bs br aw;obtain ⟨bl,b0,b4,bg,bm,bj,bt,be⟩:=zk8 f3 au a4 ai ay ae a9 a1 ap;obtain ⟨b6,bu,bn,bz,bd⟩:=zk5 f3 aq a3 a5 a6 af))
  go_ret
  exact ⟨congrArg (fun z=>ze (.bool z)) hv.out,dw⟩
 cases b2
 ·
  have hv:Hid (false=LB):=by show _=_;rw [ac.out];rfl
  clear ac;go_enter func117,ntmps117;go_wp2_with (first
  |(go_at_call 150;(with_reducible refine (d4.out _).mono ?_);rintro _ v1 ⟨rfl,f1⟩;have dw:=f0.trans f1 zr;clear d4;obtain ⟨cm,b8,bp,bx,bi,bo,bc,bq⟩:=zk8 f1 c1 c2 c3 c4 c5 c6 c7 c8;obtain ⟨bk,a8,ak,az,ao,av,a0,ax⟩:=zk8 f1 c9 d3 dp cv dz ba dc cx;obtain ⟨ar,aj,al,a7,ag,ah,a2⟩:=zk7 f1 d1 cb dn dk ab cy aa)
  |(go_at_call 150;(with_reducible refine (dl.out _).mono ?_);rintro _ v2 ⟨rfl,f2⟩;have dr:=dw.trans f2 zr;clear dl;obtain ⟨bh,cp,bf,bw,bv,b5,bs,br⟩:=zk8 f2 b8 bp bx bi bo bc bq bk;obtain ⟨aw,au,a4,ai,ay,ae,a9,a1⟩:=zk8 f2 a8 ak az ao av a0 ax ar;obtain ⟨ap,aq,a3,a5,a6,af⟩:=zk6 f2 aj al a7 ag ah a2)
  |(go_at_call 150;(with_reducible refine (cw.out _).mono ?_);rintro _ v3 ⟨rfl,f3⟩;have ek:=dr.trans f3 zr;clear cw;obtain ⟨cl,cf,cj,ck,cd,cg,ce,b7⟩:=zk8 f3 bh bf bw bv b5 bs br aw;obtain ⟨bl,b0,b4,bg,bm,bj,bt,be⟩:=zk8 f3 au a4 ai ay ae a9 a1 ap;obtain ⟨b6,bu,bn,bz,bd⟩:=zk5 f3 aq a3 a5 a6 af))
  go_ret
  exact ⟨congrArg (fun z=>ze (.bool z)) hv.out,dr⟩
 cases b3
 ·
  have hv:Hid (false=LB):=by show _=_;rw [ac.out];rfl
  clear ac;go_enter func117,ntmps117;go_wp2_with (first
  |(go_at_call 150;(with_reducible refine (d4.out _).mono ?_);rintro _ v1 ⟨rfl,f1⟩;have dw:=f0.trans f1 zr;clear d4;obtain ⟨cm,b8,bp,bx,bi,bo,bc,bq⟩:=zk8 f1 c1 c2 c3 c4 c5 c6 c7 c8;obtain ⟨bk,a8,ak,az,ao,av,a0,ax⟩:=zk8 f1 c9 d3 dp cv dz ba dc cx;obtain ⟨ar,aj,al,a7,ag,ah,a2⟩:=zk7 f1 d1 cb dn dk ab cy aa)
  |(go_at_call 150;(with_reducible refine (dl.out _).mono ?_);rintro _ v2 ⟨rfl,f2⟩;have dr:=dw.trans f2 zr;clear dl;obtain ⟨bh,cp,bf,bw,bv,b5,bs,br⟩:=zk8 f2 b8 bp bx bi bo bc bq bk;obtain ⟨aw,au,a4,ai,ay,ae,a9,a1⟩:=zk8 f2 a8 ak az ao av a0 ax ar;obtain ⟨ap,aq,a3,a5,a6,af⟩:=zk6 f2 aj al a7 ag ah a2)
  |(go_at_call 150;(with_reducible refine (cw.out _).mono ?_);rintro _ v3 ⟨rfl,f3⟩;have ek:=dr.trans f3 zr;clear cw;obtain ⟨cl,cf,cj,ck,cd,cg,ce,b7⟩:=zk8 f3 bh bf bw bv b5 bs br aw;obtain ⟨bl,b0,b4,bg,bm,bj,bt,be⟩:=zk8 f3 au a4 ai ay ae a9 a1 ap;obtain ⟨b6,bu,bn,bz,bd⟩:=zk5 f3 aq a3 a5 a6 af))
  go_ret
  exact ⟨congrArg (fun z=>ze (.bool z)) hv.out,ek⟩
 replace ac:Hid (LB=(x.loopB has&&(g1&&(g2&&(g3&&(g4&&(g5&&g6))))))):=ac;go_enter func117,ntmps117
 go_wp2_with (first
  |(go_at_call 150;(with_reducible refine (d4.out _).mono ?_);rintro _ v1 ⟨rfl,f1⟩;have dw:=f0.trans f1 zr;clear d4;obtain ⟨cm,b8,bp,bx,bi,bo,bc,bq⟩:=zk8 f1 c1 c2 c3 c4 c5 c6 c7 c8;obtain ⟨bk,a8,ak,az,ao,av,a0,ax⟩:=zk8 f1 c9 d3 dp cv dz ba dc cx;obtain ⟨ar,aj,al,a7,ag,ah,a2⟩:=zk7 f1 d1 cb dn dk ab cy aa)
  |(go_at_call 150;(with_reducible refine (dl.out _).mono ?_);rintro _ v2 ⟨rfl,f2⟩;have dr:=dw.trans f2 zr;clear dl;obtain ⟨bh,cp,bf,bw,bv,b5,bs,br⟩:=zk8 f2 b8 bp bx bi bo bc bq bk;obtain ⟨aw,au,a4,ai,ay,ae,a9,a1⟩:=zk8 f2 a8 ak az ao av a0 ax ar;obtain ⟨ap,aq,a3,a5,a6,af⟩:=zk6 f2 aj al a7 ag ah a2)
  |(go_at_call 150;(with_reducible refine (cw.out _).mono ?_);rintro _ v3 ⟨rfl,f3⟩;have ek:=dr.trans f3 zr;clear cw;obtain ⟨cl,cf,cj,ck,cd,cg,ce,b7⟩:=zk8 f3 bh bf bw bv b5 bs br aw;obtain ⟨bl,b0,b4,bg,bm,bj,bt,be⟩:=zk8 f3 au a4 ai ay ae a9 a1 ap;obtain ⟨b6,bu,bn,bz,bd⟩:=zk5 f3 aq a3 a5 a6 af))
 go_quiet (fail)
 have fi:Fr Non w (v3.drewN nq):=ek.drewN nq;have en:cI (v3.drewN nq) w.heap.size 2 x.kind:=cl;have el:cS (v3.drewN nq) w.heap.size 4 x.pastA x.past.length x.pastC:=cf;have er:cI (v3.drewN nq) w.heap.size 5 x.dev:=cj;have ef:cI (v3.drewN nq) w.heap.size 6 x.old:=ck;have es:cI (v3.drewN nq) w.heap.size 7 x.mem:=cd;have eh:cI (v3.drewN nq) w.heap.size 8 x.role:=cg;have d9:cS (v3.drewN nq) w.heap.size 9 x.pathA x.path.length x.pathC:=ce;have cz:cI (v3.drewN nq) w.heap.size 10 x.epoch.b:=b7;have dd:cI (v3.drewN nq) w.heap.size 11 x.epoch.s:=bl;have dy:cU (v3.drewN nq) w.heap.size 12 x.epoch.u:=b0;have dv:cI (v3.drewN nq) w.heap.size 13 x.n:=b4;have ds:cS (v3.drewN nq) w.heap.size 15 x.refsA x.refs.length x.refsC:=bg;have dh:cI (v3.drewN nq) w.heap.size 16 x.of.b:=bm;have du:cI (v3.drewN nq) w.heap.size 17 x.of.s:=bj;have dx:cU (v3.drewN nq) w.heap.size 18 x.of.u:=bt;have dj:cS (v3.drewN nq) w.heap.size 19 x.guardsA x.guards.length x.guardsC:=be;have d2:cI (v3.drewN nq) w.heap.size 20 x.need:=b6;have di:cI (v3.drewN nq) w.heap.size 21 x.wait:=bu;have dq:cS (v3.drewN nq) w.heap.size 22 x.boxesA x.boxes.length x.boxesC:=bn;have df:cU (v3.drewN nq) w.heap.size 23 x.pub:=bz;have dt:cS (v3.drewN nq) w.heap.size 24 x.histA x.hist.length x.histC:=bd;generalize v3.drewN nq=v4 at*;clear cl cf cj ck cd cg ce b7 bl b0 b4 bg bm bj bt be b6 bu bn bz bd bh cp bf bw bv b5 bs br aw au a4 ai ay ae a9 a1 ap aq a3 a5 a6 af cm b8 bp bx bi bo bc bq bk a8 ak az ao av a0 ax ar aj al a7 ag ah a2 c0 c1 c2 c3 c4 c5 c6 c7 c8 c9 d3 dp cv dz ba dc cx d1 cb dn dk ab cy aa
 go_upto_if 38 with (go_at_call 150;(with_reducible refine (km.out _).mono ?_);rintro _ v5 ⟨rfl,f5⟩;have ej:=fi.trans f5 zr;clear km;obtain ⟨c2,c4,c5,c6,c7,c8,c9,d3⟩:=zk8 f5 en el er ef es eh d9 cz;obtain ⟨dp,cv,dz,ba,dc,cx,d1,cb⟩:=zk8 f5 dd dy dv ds dh du dx dj;obtain ⟨dn,dk,ab,cy,aa⟩:=zk5 f5 d2 di dq df dt)
 clear en el er ef es eh d9 cz dd dy dv ds dh du dx dj d2 di dq df dt fi f5;generalize hv5:v5=W at*
 go_cut [5,8] from 14 (fun a b wc=>W=wc/\a=.int .i64 x.ls/\b=.bool x.mb)
 case first=>
  by_cases k3:x.kind=3
  ·
   have h1:Hid (x.ls=0):=if_pos k3;have fe:Hid (x.mb=((inR x.mem 1 8&&x.dev==0)||(x.mem==0&&x.dev !=0))):=if_pos k3;have ez:=Cq k3;clear k3;generalize inR x.mem 1 8=m1 at*
   rcases zb (x.dev==0) with d0|d0<;>rcases zb (x.mem==0) with e0|e0<;>cases m1
   all_goals
    have fh:(x.dev !=0)=!(x.dev==0):=rfl;rw [d0] at fh;have h2:=fe.out;rw [d0,e0,fh] at h2;replace h2:=lh h2;clear fe;go_wp2_with fail;go_meet;exact ⟨rfl,congrArg (Value.int .i64) h1.out.symm,hB h2.symm⟩
  ·
   have h1:Hid (x.ls=1):=if_neg k3;have h2:Hid (x.mb=inR x.mem 1 8):=if_neg k3;have ez:=Cf k3;clear k3;go_wp2_with fail;go_meet;exact ⟨rfl,congrArg (Value.int .i64) h1.out.symm,hB h2.symm⟩
 case rest=>
 obtain ⟨rfl,rfl,rfl⟩:=hcut
 go_upto_if 57 with (fail)
 go_cut [6,7] from 14 (fun a b wc=>W=wc/\a=.int .i64 x.nd/\b=.int .i64 x.mo)
 case first=>
  by_cases k3:x.kind=1
  ·
   have h1:Hid (x.nd=0):=if_pos k3;have h2:Hid (x.mo=20):=if_pos k3;have ez:=Cq k3;clear k3;go_wp2_with fail;go_meet;exact ⟨rfl,congrArg (Value.int .i64) h1.out.symm,congrArg (Value.int .i64) h2.out.symm⟩
  ·
   have h1:Hid (x.nd=1):=if_neg k3;have h2:Hid (x.mo=(x.guards.length:Int)):=if_neg k3;have ez:=Cf k3;clear k3;go_wp2_with fail;go_meet;exact ⟨rfl,congrArg (Value.int .i64) h1.out.symm,congrArg (Value.int .i64) h2.out.symm⟩
 case rest=>
 obtain ⟨rfl,rfl,rfl⟩:=hcut;go_upto_region 10 with (fail)
 have hS:(fun w'=>cI w' w.heap.size 5 x.dev/\cI w' w.heap.size 6 x.old/\cI w' w.heap.size 8 x.role/\cI w' w.heap.size 10 x.epoch.b/\cI w' w.heap.size 11 x.epoch.s/\cU w' w.heap.size 12 x.epoch.u/\cI w' w.heap.size 13 x.n/\cI w' w.heap.size 16 x.of.b/\cI w' w.heap.size 17 x.of.s/\cU w' w.heap.size 18 x.of.u/\cI w' w.heap.size 20 x.need/\cI w' w.heap.size 21 x.wait/\cU w' w.heap.size 23 x.pub) W.drew:=by
  and_intros
  · exact c5
  · exact c6
  · exact c8
  · exact d3
  · exact dp
  · exact cv
  · exact dz
  · exact dc
  · exact cx
  · exact d1
  · exact dn
  · exact dk
  · exact cy
 refine wp_region_held_drew (S:=fun w'=>cI w' w.heap.size 5 x.dev/\cI w' w.heap.size 6 x.old/\cI w' w.heap.size 8 x.role/\cI w' w.heap.size 10 x.epoch.b/\cI w' w.heap.size 11 x.epoch.s/\cU w' w.heap.size 12 x.epoch.u/\cI w' w.heap.size 13 x.n/\cI w' w.heap.size 16 x.of.b/\cI w' w.heap.size 17 x.of.s/\cU w' w.heap.size 18 x.of.u/\cI w' w.heap.size 20 x.need/\cI w' w.heap.size 21 x.wait/\cU w' w.heap.size 23 x.pub) (by kernel_rfl) hS (fun hHeld=> ?_);clear hHeld;try simp only [List.append_eq,List.cons_append,List.nil_append]
 replace c4:cS W.drew w.heap.size 4 x.pastA x.past.length x.pastC:=c4;replace c9:cS W.drew w.heap.size 9 x.pathA x.path.length x.pathC:=c9;replace ba:cS W.drew w.heap.size 15 x.refsA x.refs.length x.refsC:=ba;replace cb:cS W.drew w.heap.size 19 x.guardsA x.guards.length x.guardsC:=cb;replace ab:cS W.drew w.heap.size 22 x.boxesA x.boxes.length x.boxesC:=ab;replace aa:cS W.drew w.heap.size 24 x.histA x.hist.length x.histC:=aa;replace ej:=ej.drew;clear c2 c7 c5 c6 c8 d3 dp cv dz dc cx d1 dn dk cy;generalize W.drew=w0 at*;refine tkH 1 hS (h:=tkH 2 hS (h:=tkH 3 hS (h:=tkH 6 hS (h:=tkH 7 hS (h:=tkH 10 hS (h:=tkH 12 hS (h:=tkH 13 hS (h:=tkH 16 hS (h:=tkH 17 hS (h:=tkH 20 hS (h:=tkH 21 hS (h:=?_))))))))))));simp only [zl];refine tkH 24 hS (h:=tkH 25 hS (h:=tkH 26 hS (h:=tkH 27 hS (h:=tkH 30 hS (h:=tkH 31 hS (h:=tkH 34 hS (h:=tkH 35 hS (h:=tkH 38 hS (h:=tkH 39 hS (h:=?_))))))))));simp only [zl];refine Py (H:=Nat) 0 58 190 3 4 [4,8,14,18,22,28,32,36,40] mayIns (Qd x) (mayCv x) _ _ ((Array.replicate 44 true).setIfInBounds 42 false|>.setIfInBounds 43 false) w0 2 (by decide) (by kernel_rfl) (by kernel_rfl) (by kernel_rfl) underlying190 underlying3 underlying4 ?_ ?_ ?_ (by decide) ?_
 ·
  clear ac cr cq cu ct co cs;refine List.forall_mem_cons.2 ⟨⟨62,_,_,_,_,#[.tmp 60,.tmp 61,.const (.int .i64 12)],rfl,by kernel_rfl,by kernel_rfl,fun a w' K ha hf hk=>Er rfl func150 (by kernel_rfl) rfl (vals:=#[.int .i64 x.dev,.int .i64 x.ls,.int .i64 12]) (ha.trans (by kernel_rfl)) ((C7 x.dev x.ls 12 w').mono ?_)⟩,?_⟩
  ·
   rintro _ ad ⟨rfl,f⟩;exact ⟨_,rfl,hk ad f⟩
  refine List.forall_mem_cons.2 ⟨⟨65,_,_,_,_,#[.tmp 64,.const (.int .i64 1),.const (.int .i64 12)],rfl,by kernel_rfl,by kernel_rfl,fun a w' K ha hf hk=>Er rfl func150 (by kernel_rfl) rfl (vals:=#[.int .i64 x.old,.int .i64 1,.int .i64 12]) (ha.trans (by kernel_rfl)) ((C7 x.old 1 12 w').mono ?_)⟩,?_⟩
  ·
   rintro _ ad ⟨rfl,f⟩;exact ⟨_,rfl,hk ad f⟩
  refine List.forall_mem_cons.2 ⟨⟨69,_,_,_,_,#[.tmp 68,.const (.int .i64 1),.const (.int .i64 3)],rfl,by kernel_rfl,by kernel_rfl,fun a w' K ha hf hk=>Er rfl func150 (by kernel_rfl) rfl (vals:=#[.int .i64 x.role,.int .i64 1,.int .i64 3]) (ha.trans (by kernel_rfl)) ((C7 x.role 1 3 w').mono ?_)⟩,?_⟩
  ·
   rintro _ ad ⟨rfl,f⟩;exact ⟨_,rfl,hk ad f⟩
  refine List.forall_mem_cons.2 ⟨⟨72,_,_,_,_,#[.tmp 71,.const (.int .i64 0),.const (.int .i64 2147483647)],rfl,by kernel_rfl,by kernel_rfl,fun a w' K ha hf hk=>Er rfl func150 (by kernel_rfl) rfl (vals:=#[.int .i64 x.n,.int .i64 0,.int .i64 2147483647]) (ha.trans (by kernel_rfl)) ((C7 x.n 0 2147483647 w').mono ?_)⟩,?_⟩
  ·
   rintro _ ad ⟨rfl,f⟩;exact ⟨_,rfl,hk ad f⟩
  refine List.forall_mem_cons.2 ⟨⟨75,_,_,_,_,#[.tmp 74,.const (.int .i64 0),.const (.int .i64 2147483647)],rfl,by kernel_rfl,by kernel_rfl,fun a w' K ha hf hk=>Er rfl func150 (by kernel_rfl) rfl (vals:=#[.int .i64 x.wait,.int .i64 0,.int .i64 2147483647]) (ha.trans (by kernel_rfl)) ((C7 x.wait 0 2147483647 w').mono ?_)⟩,?_⟩
  ·
   rintro _ ad ⟨rfl,f⟩;exact ⟨_,rfl,hk ad f⟩
  refine List.forall_mem_cons.2 ⟨⟨80,_,_,_,_,#[.tmp 77,.tmp 78,.tmp 79],rfl,by kernel_rfl,by kernel_rfl,fun a w' K ha hf hk=>Er rfl func150 (by kernel_rfl) rfl (vals:=#[.int .i64 x.need,.int .i64 x.nd,.int .i64 x.mo]) (ha.trans (by kernel_rfl)) ((C7 x.need x.nd x.mo w').mono ?_)⟩,?_⟩
  ·
   rintro _ ad ⟨rfl,f⟩;exact ⟨_,rfl,hk ad f⟩
  refine List.forall_mem_cons.2 ⟨⟨83,_,_,_,_,#[.tmp 82],rfl,by kernel_rfl,by kernel_rfl,fun a w' K ha hf hk=>Er rfl func151 (by kernel_rfl) rfl (vals:=#[.agg x.epoch.V]) (ha.trans (by kernel_rfl)) ((Iw x.epoch w').mono ?_)⟩,?_⟩
  ·
   rintro _ ad ⟨rfl,f⟩;exact ⟨_,rfl,hk ad f⟩
  refine List.forall_mem_cons.2 ⟨⟨86,_,_,_,_,#[.tmp 85],rfl,by kernel_rfl,by kernel_rfl,fun a w' K ha hf hk=>Er rfl func151 (by kernel_rfl) rfl (vals:=#[.agg x.of.V]) (ha.trans (by kernel_rfl)) ((Iw x.of w').mono ?_)⟩,?_⟩
  ·
   rintro _ ad ⟨rfl,f⟩;exact ⟨_,rfl,hk ad f⟩
  refine List.forall_mem_cons.2 ⟨⟨89,_,_,_,_,#[.tmp 88],rfl,by kernel_rfl,by kernel_rfl,fun a w' K ha hf hk=>Er rfl func152 (by kernel_rfl) rfl (vals:=#[.int .u64 (x.pub:Int)]) (ha.trans (by kernel_rfl)) ((Is x.pub w').mono ?_)⟩,?_⟩
  ·
   rintro _ ad ⟨rfl,f⟩;exact ⟨_,rfl,hk ad f⟩
  exact fun y hy=>absurd hy (by simp)
 ·
  clear ac cr cq cu ct co cs;unfold mayIns;refine List.forall_mem_cons.2 ⟨Or.inr ⟨4,by kernel_rfl,rfl⟩,?_⟩;refine List.forall_mem_cons.2 ⟨Or.inr ⟨8,by kernel_rfl,rfl⟩,?_⟩;refine List.forall_mem_cons.2 ⟨Or.inl ⟨by kernel_rfl,rfl⟩,?_⟩;refine List.forall_mem_cons.2 ⟨Or.inr ⟨14,by kernel_rfl,rfl⟩,?_⟩;refine List.forall_mem_cons.2 ⟨Or.inr ⟨18,by kernel_rfl,rfl⟩,?_⟩;refine List.forall_mem_cons.2 ⟨Or.inr ⟨22,by kernel_rfl,rfl⟩,?_⟩;refine List.forall_mem_cons.2 ⟨Or.inr ⟨28,by kernel_rfl,rfl⟩,?_⟩;refine List.forall_mem_cons.2 ⟨Or.inr ⟨32,by kernel_rfl,rfl⟩,?_⟩;refine List.forall_mem_cons.2 ⟨Or.inr ⟨36,by kernel_rfl,rfl⟩,?_⟩;refine List.forall_mem_cons.2 ⟨Or.inr ⟨40,by kernel_rfl,rfl⟩,?_⟩;exact fun y hy=>absurd hy (by simp)
 ·
  intro w' hf;obtain ⟨q5,q6,q8,ed,eb,d8,ep,eo,em,ei,eg,ea,ee⟩:=hS
  and_intros<;>first|exact hf.cell q5 zq|exact hf.cell q6 zq|exact hf.cell q8 zq|exact hf.cell ed zq|exact hf.cell eb zq|exact hf.cell d8 zq|exact hf.cell ep zq|exact hf.cell eo zq|exact hf.cell em zq|exact hf.cell ei zq|exact hf.cell eg zq|exact hf.cell ea zq|exact hf.cell ee zq
 intro b w1 D n hF hb eu hn ca;rw [Pz ([none,none,none,none,none,none,none,none,none,none,none,none,none,none,none,none,none,none,none,none,none,none,none,none,none,none,none,none,none,none,none,none,none,none,none,none,none,none,none,none,none,none,none,none,none,none,none,none,none,none,none,none,none,none,none,none,none,none,some 0,none,none,none,some 4,none,none,some 8,none,none,none,some 14,none,none,some 18,none,none,some 22,none,none,none,none,some 28,none,none,some 32,none,none,some 36,none,none,some 40,none,none,none,none,none,none,none,none,none,none,none,none,none,none,none,none,none,none,none,none,none,none,none,none,none,none,none,none,none,none,none,none,none,none,none,none,none,none,none,none,none,none,none,none,none,none]) (by kernel_rfl) (by decide)];dsimp only [List.zipWith_cons_cons,List.zipWith_nil_left];simp only [if_true]
 have fb:(fun w'=>cI w' w.heap.size 5 x.dev/\cI w' w.heap.size 6 x.old/\cI w' w.heap.size 8 x.role/\cI w' w.heap.size 10 x.epoch.b/\cI w' w.heap.size 11 x.epoch.s/\cU w' w.heap.size 12 x.epoch.u/\cI w' w.heap.size 13 x.n/\cI w' w.heap.size 16 x.of.b/\cI w' w.heap.size 17 x.of.s/\cU w' w.heap.size 18 x.of.u/\cI w' w.heap.size 20 x.need/\cI w' w.heap.size 21 x.wait/\cU w' w.heap.size 23 x.pub) w1:=by
  obtain ⟨q5,q6,q8,ed,eb,d8,ep,eo,em,ei,eg,ea,ee⟩:=hS
  and_intros<;>first|exact hF.cell q5 zq|exact hF.cell q6 zq|exact hF.cell q8 zq|exact hF.cell ed zq|exact hF.cell eb zq|exact hF.cell d8 zq|exact hF.cell ep zq|exact hF.cell eo zq|exact hF.cell em zq|exact hF.cell ei zq|exact hF.cell eg zq|exact hF.cell ea zq|exact hF.cell ee zq
 refine tkH 42 fb (h:=?_);simp only [zl];refine M9 43 (by kernel_rfl) rfl (fun K hK=> ?_);refine P5 rfl rfl eu (int_keyed underlying3) underlying190 ?_;intro w2 d7 fv fx;have b9:=Fr.ofGrown fv (fun k hk=>by cases hk);have da:=hF.trans b9 zr;have fm:=ej.trans da zr;refine hK.out _ _ ?_ (fun _=> ?_)
 ·
  obtain ⟨q5,q6,q8,ed,eb,d8,ep,eo,em,ei,eg,ea,ee⟩:=fb
  and_intros<;>first|exact b9.cell q5 zq|exact b9.cell q6 zq|exact b9.cell q8 zq|exact b9.cell ed zq|exact b9.cell eb zq|exact b9.cell d8 zq|exact b9.cell ep zq|exact b9.cell eo zq|exact b9.cell em zq|exact b9.cell ei zq|exact b9.cell eg zq|exact b9.cell ea zq|exact b9.cell ee zq
 clear hK K;rw [Ac];simp only [zl];refine oD ?_;have ft:w.heap.size<w1.heap.size:=Nat.lt_of_lt_of_le (World.block_lt_of_cell? _ _ cb) hF.size;replace c4:=da.cell c4 zq;replace c9:=da.cell c9 zq;replace ba:=da.cell ba zq;replace cb:=da.cell cb zq;replace ab:=da.cell ab zq;replace aa:=da.cell aa zq;have et:=(ej.trans hF zr).size;clear fb hS da b9 hF ej;go_simp;go_wp2_with fail
 go_loopw [] (fun wr=>∃(cn:Lit->Bool) (e7:Nat),wr.ranges zp 3 (plainElem zp 4) b w1.heap.size n D cn e7/\Hid (RA x has cn)/\Fr Non w wr/\Fr (fun k=>w1.heap.size<=k) w2 wr) (fun wr=>wr.rangeLeft b w1.heap.size)
 case atStart=>exact ⟨_,_,d7,RA.start (fun j hj=>by rw [(ca.2 _).1,Option.isSome_map]),fm,Fr.refl _ _⟩
 case round=>
  obtain ⟨cn,e7,d7,e9,hF,d5⟩:=hrel;clear fm
  go_wp2_with (first
   |(at_next;refine P6 _ rfl _ rfl 3 4 underlying3 underlying4 b w1.heap.size n D cn e7 rfl d7 ?_ ?_)
   |go_in)
  ·
   intro fq fn;have hd:=RA.done e9 fn;replace ac:Hid (LB=(g1&&(g2&&(g3&&(g4&&(g5&&g6)))))):=by show _=_;rw [ac.out,hd];rfl
   subst fq;clear d7 hd fn e9 ca;replace c4:=d5.cell c4 (by show ¬w1.heap.size<=w.heap.size;omega);replace c9:=d5.cell c9 (by show ¬w1.heap.size<=w.heap.size;omega);replace ba:=d5.cell ba (by show ¬w1.heap.size<=w.heap.size;omega);replace cb:=d5.cell cb (by show ¬w1.heap.size<=w.heap.size;omega);replace ab:=d5.cell ab (by show ¬w1.heap.size<=w.heap.size;omega);replace aa:=d5.cell aa (by show ¬w1.heap.size<=w.heap.size;omega)
   cases g1
   ·
    have hv:Hid (false=LB):=ac.out.symm;clear ac;go_wp2_with (first|(go_at_call 158;(with_reducible refine (cr.out _ hF).mono ?_);rintro _ v0 ⟨rfl,e0⟩;have hF:=hF.trans e0 zr;obtain ⟨ba,c4,c9,ab,aa⟩:=zk5 e0 ba c4 c9 ab aa)|(go_at_call 159;(with_reducible refine (cq.out _ hF).mono ?_);rintro _ v1 ⟨rfl,e1⟩;have hF:=hF.trans e1 zr;obtain ⟨c4,c9,ab,aa⟩:=zk4 e1 c4 c9 ab aa)|(go_at_call 161;(with_reducible refine (cu.out _ hF).mono ?_);rintro _ v2 ⟨rfl,e2⟩;have hF:=hF.trans e2 zr;obtain ⟨c9,ab,aa⟩:=zk3 e2 c9 ab aa)|(go_at_call 162;(with_reducible refine (ct.out _ hF).mono ?_);rintro _ v3 ⟨rfl,e3⟩;have hF:=hF.trans e3 zr;obtain ⟨ab,aa⟩:=zk2 e3 ab aa)|(go_at_call 154;(with_reducible refine (co.out _ hF).mono ?_);rintro _ v4 ⟨rfl,e4⟩;have hF:=hF.trans e4 zr;have aa:=e4.cell aa zq)|(go_at_call 163;(with_reducible refine (cs.out _ hF).mono ?_);rintro _ v5 ⟨rfl,e5⟩;have hF:=hF.trans e5 zr))
    go_ret
    exact ⟨congrArg (fun z=>ze (.bool z)) hv.out,hF⟩
   cases g2
   ·
    have hv:Hid (false=LB):=ac.out.symm;clear ac;go_wp2_with (first|(go_at_call 158;(with_reducible refine (cr.out _ hF).mono ?_);rintro _ v0 ⟨rfl,e0⟩;have hF:=hF.trans e0 zr;obtain ⟨ba,c4,c9,ab,aa⟩:=zk5 e0 ba c4 c9 ab aa)|(go_at_call 159;(with_reducible refine (cq.out _ hF).mono ?_);rintro _ v1 ⟨rfl,e1⟩;have hF:=hF.trans e1 zr;obtain ⟨c4,c9,ab,aa⟩:=zk4 e1 c4 c9 ab aa)|(go_at_call 161;(with_reducible refine (cu.out _ hF).mono ?_);rintro _ v2 ⟨rfl,e2⟩;have hF:=hF.trans e2 zr;obtain ⟨c9,ab,aa⟩:=zk3 e2 c9 ab aa)|(go_at_call 162;(with_reducible refine (ct.out _ hF).mono ?_);rintro _ v3 ⟨rfl,e3⟩;have hF:=hF.trans e3 zr;obtain ⟨ab,aa⟩:=zk2 e3 ab aa)|(go_at_call 154;(with_reducible refine (co.out _ hF).mono ?_);rintro _ v4 ⟨rfl,e4⟩;have hF:=hF.trans e4 zr;have aa:=e4.cell aa zq)|(go_at_call 163;(with_reducible refine (cs.out _ hF).mono ?_);rintro _ v5 ⟨rfl,e5⟩;have hF:=hF.trans e5 zr))
    go_ret
    exact ⟨congrArg (fun z=>ze (.bool z)) hv.out,hF⟩
   cases g3
   ·
    have hv:Hid (false=LB):=ac.out.symm;clear ac;go_wp2_with (first|(go_at_call 158;(with_reducible refine (cr.out _ hF).mono ?_);rintro _ v0 ⟨rfl,e0⟩;have hF:=hF.trans e0 zr;obtain ⟨ba,c4,c9,ab,aa⟩:=zk5 e0 ba c4 c9 ab aa)|(go_at_call 159;(with_reducible refine (cq.out _ hF).mono ?_);rintro _ v1 ⟨rfl,e1⟩;have hF:=hF.trans e1 zr;obtain ⟨c4,c9,ab,aa⟩:=zk4 e1 c4 c9 ab aa)|(go_at_call 161;(with_reducible refine (cu.out _ hF).mono ?_);rintro _ v2 ⟨rfl,e2⟩;have hF:=hF.trans e2 zr;obtain ⟨c9,ab,aa⟩:=zk3 e2 c9 ab aa)|(go_at_call 162;(with_reducible refine (ct.out _ hF).mono ?_);rintro _ v3 ⟨rfl,e3⟩;have hF:=hF.trans e3 zr;obtain ⟨ab,aa⟩:=zk2 e3 ab aa)|(go_at_call 154;(with_reducible refine (co.out _ hF).mono ?_);rintro _ v4 ⟨rfl,e4⟩;have hF:=hF.trans e4 zr;have aa:=e4.cell aa zq)|(go_at_call 163;(with_reducible refine (cs.out _ hF).mono ?_);rintro _ v5 ⟨rfl,e5⟩;have hF:=hF.trans e5 zr))
    go_ret
    exact ⟨congrArg (fun z=>ze (.bool z)) hv.out,hF⟩
   cases g4
   ·
    have hv:Hid (false=LB):=ac.out.symm;clear ac;go_wp2_with (first|(go_at_call 158;(with_reducible refine (cr.out _ hF).mono ?_);rintro _ v0 ⟨rfl,e0⟩;have hF:=hF.trans e0 zr;obtain ⟨ba,c4,c9,ab,aa⟩:=zk5 e0 ba c4 c9 ab aa)|(go_at_call 159;(with_reducible refine (cq.out _ hF).mono ?_);rintro _ v1 ⟨rfl,e1⟩;have hF:=hF.trans e1 zr;obtain ⟨c4,c9,ab,aa⟩:=zk4 e1 c4 c9 ab aa)|(go_at_call 161;(with_reducible refine (cu.out _ hF).mono ?_);rintro _ v2 ⟨rfl,e2⟩;have hF:=hF.trans e2 zr;obtain ⟨c9,ab,aa⟩:=zk3 e2 c9 ab aa)|(go_at_call 162;(with_reducible refine (ct.out _ hF).mono ?_);rintro _ v3 ⟨rfl,e3⟩;have hF:=hF.trans e3 zr;obtain ⟨ab,aa⟩:=zk2 e3 ab aa)|(go_at_call 154;(with_reducible refine (co.out _ hF).mono ?_);rintro _ v4 ⟨rfl,e4⟩;have hF:=hF.trans e4 zr;have aa:=e4.cell aa zq)|(go_at_call 163;(with_reducible refine (cs.out _ hF).mono ?_);rintro _ v5 ⟨rfl,e5⟩;have hF:=hF.trans e5 zr))
    go_ret
    exact ⟨congrArg (fun z=>ze (.bool z)) hv.out,hF⟩
   cases g5
   ·
    have hv:Hid (false=LB):=ac.out.symm;clear ac;go_wp2_with (first|(go_at_call 158;(with_reducible refine (cr.out _ hF).mono ?_);rintro _ v0 ⟨rfl,e0⟩;have hF:=hF.trans e0 zr;obtain ⟨ba,c4,c9,ab,aa⟩:=zk5 e0 ba c4 c9 ab aa)|(go_at_call 159;(with_reducible refine (cq.out _ hF).mono ?_);rintro _ v1 ⟨rfl,e1⟩;have hF:=hF.trans e1 zr;obtain ⟨c4,c9,ab,aa⟩:=zk4 e1 c4 c9 ab aa)|(go_at_call 161;(with_reducible refine (cu.out _ hF).mono ?_);rintro _ v2 ⟨rfl,e2⟩;have hF:=hF.trans e2 zr;obtain ⟨c9,ab,aa⟩:=zk3 e2 c9 ab aa)|(go_at_call 162;(with_reducible refine (ct.out _ hF).mono ?_);rintro _ v3 ⟨rfl,e3⟩;have hF:=hF.trans e3 zr;obtain ⟨ab,aa⟩:=zk2 e3 ab aa)|(go_at_call 154;(with_reducible refine (co.out _ hF).mono ?_);rintro _ v4 ⟨rfl,e4⟩;have hF:=hF.trans e4 zr;have aa:=e4.cell aa zq)|(go_at_call 163;(with_reducible refine (cs.out _ hF).mono ?_);rintro _ v5 ⟨rfl,e5⟩;have hF:=hF.trans e5 zr))
    go_ret
    exact ⟨congrArg (fun z=>ze (.bool z)) hv.out,hF⟩
   have hv:Hid (g6=LB):=ac.out.symm;clear ac;go_wp2_with (first|(go_at_call 158;(with_reducible refine (cr.out _ hF).mono ?_);rintro _ v0 ⟨rfl,e0⟩;have hF:=hF.trans e0 zr;obtain ⟨ba,c4,c9,ab,aa⟩:=zk5 e0 ba c4 c9 ab aa)|(go_at_call 159;(with_reducible refine (cq.out _ hF).mono ?_);rintro _ v1 ⟨rfl,e1⟩;have hF:=hF.trans e1 zr;obtain ⟨c4,c9,ab,aa⟩:=zk4 e1 c4 c9 ab aa)|(go_at_call 161;(with_reducible refine (cu.out _ hF).mono ?_);rintro _ v2 ⟨rfl,e2⟩;have hF:=hF.trans e2 zr;obtain ⟨c9,ab,aa⟩:=zk3 e2 c9 ab aa)|(go_at_call 162;(with_reducible refine (ct.out _ hF).mono ?_);rintro _ v3 ⟨rfl,e3⟩;have hF:=hF.trans e3 zr;obtain ⟨ab,aa⟩:=zk2 e3 ab aa)|(go_at_call 154;(with_reducible refine (co.out _ hF).mono ?_);rintro _ v4 ⟨rfl,e4⟩;have hF:=hF.trans e4 zr;have aa:=e4.cell aa zq)|(go_at_call 163;(with_reducible refine (cs.out _ hF).mono ?_);rintro _ v5 ⟨rfl,e5⟩;have hF:=hF.trans e5 zr))
   go_ret
   exact ⟨congrArg (fun z=>ze (.bool z)) hv.out,hF⟩
  ·
   intro k v w3 ey hv fo d6 ev ew fs fu;clear cr cq cu ct co cs c4 c9 ba cb ab aa;obtain ⟨c,rfl,fg⟩:=ca.entry hv;obtain ⟨y,fa,ff⟩:=Option.map_eq_some_iff.1 fg;have fk:=List.find?_some fa;obtain ⟨j,hj,hk,fd⟩:=Zs x y (List.mem_of_find?_eq_some fa);obtain rfl:y.2.1=k:=by simpa using fk
   rw [hk] at fo d6 fu ⊢;have hc:x.mayB j=c:=by rw [<- fd,ff]
   have fc:Fr (fun k=>some w1.heap.size=some k) wr w3:=Fr.grown (Fr.refl _ _) ew (fun k hk _=>hk);have fl:Fr Non w w3:=hF.trans fc (fun i hi e=>by cases e;have:=et;omega);have e8:Fr (fun k=>w1.heap.size<=k) w2 w3:=d5.trans fc (fun i hi e=>by cases e;exact Nat.le_refl _);have fp:w3.rangeLeft b w1.heap.size<wr.rangeLeft b w1.heap.size:=by rw [d6.left_eq,d7.left_eq];exact ev
   have fj:=Yt has j hhas hj;have fw:(bits .and .i64 (has:Int) ((2^j:Nat):Int) !=0)=has.testBit j:=by rw [bne,<- Bool.not_not (has.testBit j),<- fj];rfl
   have ec:=lh (RA.step (x:=x) (has:=has) (j:=j) e9 hj);have e6:=lh (fun h1 h2=>Zu (x:=x) (has:=has) hj h1 h2);generalize hpj:((2^j:Nat):Int)=pj at*;clear hv fg fa ff fk hk fd d7 fj ca;generalize htb:has.testBit j=tb at*;generalize x.mayB j=mj at*;subst hc
   cases tb<;>cases mj
   case true.false=>
    have hv:Hid (false=LB):=by show _=_;rw [ac.out,e6.out rfl rfl];rfl
    clear ac e6 ec;go_wp2_with fail
    go_ret
    exact ⟨congrArg (fun z=>ze (.bool z)) hv.out,fl⟩
   all_goals
    clear e6 ac;go_wp2_with fail;exact ⟨⟨_,ey,d6,ec.out (by decide),fl,e8⟩,fp⟩
end Oq
end
section
open Go.RowKit
namespace Oq
attribute [local go_sem] Bool.not_false Bool.not_true
theorem Ez {α:Type} (l:List α) (q:α->Bool) {k:Nat} {x:α} (h:l[k]? =some x):(l.take (k+1)).all q=((l.take k).all q&&q x):=by
 obtain ⟨hk,rfl⟩:=List.getElem?_eq_some_iff.1 h;rw [List.take_succ_eq_append_getElem hk,List.all_append];simp
theorem Qe (B n c : Nat) (A : Option Addr) (l : List Bx) (w : World) (hn : Hid (l.length = n)) (hr : Rd w B 4 A n (l.flatMap Bx.cells)) (hnm : n <= 1000000) :
    Calls zp 147 #[.slice A n c] w (Ae (l.all Bx.may) w) := by
  go_enter func147, ntmps147;go_wp2
  go_loopw [3] (fun v wr => ∃ k : Nat, v = .int .i64 (k : Int) /\ k <= n /\ Hid ((l.take k).all Bx.may = true) /\ Fr Non w wr) (fun v _ => n - (intOf v).toNat)
  case atStart => exact ⟨0, rfl, by omega, rfl, Fr.refl _ _⟩
  case round =>
    obtain ⟨k, rfl, hk, hh, hf⟩ := hrel
    by_cases hlt : k < n
    · obtain ⟨i1,i2,i3⟩:=ix k n
      obtain ⟨x, hx⟩ : ∃ x, l[k]? = some x := ⟨_, An3 (by rw [hn.out]; exact hlt)⟩;obtain ⟨b, off, rfl, hbB, k0, k1, k2, k3⟩ := Bx.at (hr.fr hf (fun _ _ e => e)) hx;have hmem := An4 hx;have hsn : Hid ((l.take (k + 1)).all Bx.may = ((l.take k).all Bx.may && Bx.may x)) := Ez l Bx.may hx;have hno : Hid (Bx.may x = false -> l.all Bx.may = false) := fun h => List.all_eq_false.2 ⟨x, hmem, by rw [h]; simp⟩;have hmay : Hid (Bx.may x = (Ar x.t && Ar x.e && fOk x.y && fOk x.g)) := rfl;rw [hmay.out] at hsn hno;have q1 := lh (fun w' => Ir x.t w');have q2 := lh (fun w' => Ir x.e w');have q3 := lh (fun w' => It x.y w');have q4 := lh (fun w' => It x.g w');clear hx hmem hmay;generalize Ar x.t = b1 at *;generalize Ar x.e = b2 at *;generalize fOk x.y = b3 at *;generalize fOk x.g = b4 at *;have tok1 : True := trivial;have tok3 : True := trivial
      cases b1 <;> cases b2 <;> cases b3 <;> cases b4
      all_goals
        go_wp2_with (first
          | (have _t := tok1; go_at_call 145; (with_reducible refine (q1.out _).mono ?_); rintro _ w1 ⟨rfl, f1⟩; have k1' := f1.cell k1 (fun e => e); have k2' := f1.cell k2 (fun e => e); have k3' := f1.cell k3 (fun e => e); have fz1 := hf.trans f1 (fun _ _ e => e); clear tok1 _t)
          | (go_at_call 145; (with_reducible refine (q2.out _).mono ?_); rintro _ w2 ⟨rfl, f2⟩; have k2'' := f2.cell k2' (fun e => e); have k3'' := f2.cell k3' (fun e => e); have fz2 := fz1.trans f2 (fun _ _ e => e))
          | (have _t := tok3; go_at_call 146; (with_reducible refine (q3.out _).mono ?_); rintro _ w3 ⟨rfl, f3⟩; have k3''' := f3.cell k3'' (fun e => e); have fz3 := fz2.trans f3 (fun _ _ e => e); clear tok3 _t)
          | (go_at_call 146; (with_reducible refine (q4.out _).mono ?_); rintro _ w4 ⟨rfl, f4⟩; have fz4 := fz3.trans f4 (fun _ _ e => e)))
        first
          | (go_ret; first | exact ⟨by rw [hno.out rfl]; rfl, fz4⟩ | exact ⟨by rw [hno.out rfl]; rfl, fz3⟩ | exact ⟨by rw [hno.out rfl]; rfl, fz2⟩ | exact ⟨by rw [hno.out rfl]; rfl, fz1⟩)
          | (go_roundw
             case rel => exact ⟨k + 1, by go_num, by omega, by show _ = _; rw [hsn.out, hh.out]; rfl, fz4⟩
             case measure => simp [intOf]; omega)
    · obtain rfl : k = n := by omega
      have hfin : Hid (l.all Bx.may = true) := by have h := hh.out; rw [An5 (by rw [hn.out]; omega)] at h; exact h
      go_wp2
      go_ret
      exact ⟨by rw [hfin.out]; rfl, hf⟩
def OpL.itemsR (x:OpL):Bool:=x.guards.all (fun n=>inR n 1 12)&&(x.refs.all fOk&&(x.past.all Id.named&&(x.path.all (fun y=>Ar y.p&&y.xs.all Bx.may)&&(x.hist.all (fun y=>y.f.named)&&x.boxes.all Bx.may))))
theorem Zw (x:OpL) (w:World) (hat:x.at w w.heap.size) (hok:x.op.ok):Calls zp 111 #[.agg x.cells] w (Ae x.itemsR w):=by
 have a6:=Blk.new w 44 x.cells;have f0:Fr Non w (w.alloc (.cells x.cells 44)):=(Fr.refl Non w).alloc _;have c4:cS (w.alloc (.cells x.cells 44)) w.heap.size 4 x.pastA x.past.length x.pastC:=a6.cell 4;have c9:cS (w.alloc (.cells x.cells 44)) w.heap.size 9 x.pathA x.path.length x.pathC:=a6.cell 9;have be:cS (w.alloc (.cells x.cells 44)) w.heap.size 15 x.refsA x.refs.length x.refsC:=a6.cell 15;have bf:cS (w.alloc (.cells x.cells 44)) w.heap.size 19 x.guardsA x.guards.length x.guardsC:=a6.cell 19;have bg:cS (w.alloc (.cells x.cells 44)) w.heap.size 22 x.boxesA x.boxes.length x.boxesC:=a6.cell 22;have bh:cS (w.alloc (.cells x.cells 44)) w.heap.size 24 x.histA x.hist.length x.histC:=a6.cell 24;have a3:x.guards.length<=1000000:=by have h:=hok.guards.1;rw [show x.op.guards=x.guards from rfl] at h;omega
 have bb:x.refs.length<=1000000:=by have h:=hok.refs.1;rw [show x.op.refs=x.refs from rfl] at h;omega
 have a1:x.boxes.length<=1000000:=by have h:=hok.boxes.1;rw [show x.op.boxes=x.boxes from rfl] at h;omega
 have a4:Hid (∀y∈x.path,y.xs.length<=1000000):=fun y hy=>by have h:=(hok.path.2 y.nd (List.mem_map.2 ⟨y,hy,rfl⟩)).2.1;rw [show y.nd.xs=y.xs from rfl] at h;omega
 have a9:x.past.length<=1000000:=by have h:=hok.past.1;rw [show x.op.past=x.past from rfl] at h;omega
 have a8:x.path.length<=1000000:=by have h:=hok.path.1;rw [show x.op.path=x.path.map NdL.nd from rfl,An6] at h;omega
 have ba:x.hist.length<=1000000:=by have h:=hok.hist.1;rw [show x.op.hist=x.hist.map SlL.sl from rfl,An6] at h;omega
 have a5:Hid (∀y∈x.path,y.at (w.alloc (.cells x.cells 44)) w.heap.size):=fun y hy=>(hat.nodes y hy).fr f0 zr;have aw:=hat.past.1.fr f0 zr;have ax:=hat.path.1.fr f0 zr;have a0:=hat.refs.1.fr f0 zr;have aq:=hat.guards.1.fr f0 zr;have az:=hat.boxes.1.fr f0 zr;have ay:=hat.hist.1.fr f0 zr;have aa:Hid (x.itemsR=(x.guards.all (fun n=>inR n 1 12)&&(x.refs.all fOk&&(x.past.all Id.named&&(x.path.all (fun y=>Ar y.p&&y.xs.all Bx.may)&&(x.hist.all (fun y=>y.f.named)&&x.boxes.all Bx.may)))))):=rfl;generalize x.itemsR=LB at*;obtain ⟨al,ah⟩:=Aa x.past.length;rw [ah.out] at aw a9 c4;obtain ⟨aj,ag⟩:=Aa x.path.length;rw [ag.out] at ax a8 c9;obtain ⟨ak,af⟩:=Aa x.refs.length;rw [af.out] at a0 bb be;obtain ⟨ab,ac⟩:=Aa x.guards.length;rw [ac.out] at aq a3 bf;obtain ⟨a2,au⟩:=Aa x.boxes.length;rw [au.out] at az a1 bg;obtain ⟨ai,ae⟩:=Aa x.hist.length;rw [ae.out] at ay ba bh;generalize x.cells=CS at*;clear a6 hat hok;go_enter func111,ntmps111;go_upto_region 1 with (fail)
 generalize w.alloc (.cells CS 44)=w0 at*;go_wp2_with fail
 go_loopw [3] (fun v wr=>∃k:Nat,v=.int .i64 (k:Int)/\k<=ab/\Hid ((x.guards.take k).all (fun n=>inR n 1 12)=true)/\Fr Non w0 wr) (fun v _=>ab-(intOf v).toNat)
 case atStart=>exact ⟨0,rfl,by omega,rfl,Fr.refl _ _⟩
 case round=>
  obtain ⟨k,rfl,hk,hh,hf⟩:=hrel;have cc:=hf.cell bf zq
  by_cases hlt:k<ab
  ·
   obtain ⟨i1,i2,i3⟩:=ix k ab
   obtain ⟨y,hy⟩:∃y,x.guards[k]? =some y:=⟨_,An3 (by rw [ac.out];exact hlt)⟩;obtain ⟨b,a7,u,hA,bd,hu,k0⟩:=(aq.fr hf zr).at hlt;rw [An7,hy] at hu;obtain rfl:=(Option.some.inj hu).symm;replace k0:cI wr b (a7+k) y:=k0;rw [hA] at cc;have ad:=An4 hy;have ap:Hid ((x.guards.take (k+1)).all (fun n=>inR n 1 12)=((x.guards.take k).all (fun n=>inR n 1 12)&&inR y 1 12)):=Ez x.guards (fun n=>inR n 1 12) hy;have ao:Hid (inR y 1 12=false->x.guards.all (fun n=>inR n 1 12)=false):=fun h=>List.all_eq_false.2 ⟨y,ad,by rw [h];simp⟩;clear hy ad;have kc:=lh (fun w'=>Ga y 1 12 w');generalize inR y 1 12=pb at*
   cases pb
   ·
    have hv:Hid (false=LB):=by show _=_;rw [aa.out,ao.out rfl];rfl
    clear aa ao ap;go_wp2_with (go_at_call 143;(with_reducible refine (kc.out _).mono ?_);rintro _ w1 ⟨rfl,f1⟩)
    go_ret
    exact ⟨congrArg (fun z=>ze (.bool z)) hv.out,(f0.trans hf zr).trans f1 zr⟩
   ·
    have ar:Hid ((x.guards.take (k+1)).all (fun n=>inR n 1 12)=true):=by show _=_;rw [ap.out,hh.out];rfl
    clear ao ap;go_wp2_with (go_at_call 143;(with_reducible refine (kc.out _).mono ?_);rintro _ w1 ⟨rfl,f1⟩);go_roundw
    case rel=>exact ⟨k+1,by go_num,by omega,ar,hf.trans f1 zr⟩
    case measure=>simp [intOf];omega
  ·
   obtain rfl:ab=k:=by omega
   have av:x.guards.all (fun n=>inR n 1 12)=true:=by have h:=hh.out;rw [An5 (by rw [ac.out];omega)] at h;exact h
   replace aa:Hid (LB=(x.refs.all fOk&&(x.past.all Id.named&&(x.path.all (fun y=>Ar y.p&&y.xs.all Bx.may)&&(x.hist.all (fun y=>y.f.named)&&(x.boxes.all Bx.may)))))):=by show _=_;rw [aa.out,av];rfl
   clear av hh aq ac hlt hk;go_wp2_with fail
   go_loopw [4] (fun v wr=>∃k:Nat,v=.int .i64 (k:Int)/\k<=ak/\Hid ((x.refs.take k).all fOk=true)/\Fr Non w0 wr) (fun v _=>ak-(intOf v).toNat)
   case atStart=>exact ⟨0,rfl,by omega,rfl,hf⟩
   case round=>
    obtain ⟨k,rfl,hk,hh,hf⟩:=hrel;have cc:=hf.cell be zq
    by_cases hlt:k<ak
    ·
     obtain ⟨i1,i2,i3⟩:=ix k ak
     obtain ⟨y,hy⟩:∃y,x.refs[k]? =some y:=⟨_,An3 (by rw [af.out];exact hlt)⟩;obtain ⟨b,a7,u,hA,bd,hu,k0⟩:=(a0.fr hf zr).at hlt;rw [An7,hy] at hu;obtain rfl:=(Option.some.inj hu).symm;replace k0:cU wr b (a7+k) y:=k0;rw [hA] at cc;have ad:=An4 hy;have ap:Hid ((x.refs.take (k+1)).all fOk=((x.refs.take k).all fOk&&fOk y)):=Ez x.refs fOk hy;have ao:Hid (fOk y=false->x.refs.all fOk=false):=fun h=>List.all_eq_false.2 ⟨y,ad,by rw [h];simp⟩;clear hy ad;have kc:=lh (fun w'=>It y w');generalize fOk y=pb at*
     cases pb
     ·
      have hv:Hid (false=LB):=by show _=_;rw [aa.out,ao.out rfl];rfl
      clear aa ao ap;go_wp2_with (go_at_call 146;(with_reducible refine (kc.out _).mono ?_);rintro _ w1 ⟨rfl,f1⟩)
      go_ret
      exact ⟨congrArg (fun z=>ze (.bool z)) hv.out,(f0.trans hf zr).trans f1 zr⟩
     ·
      have ar:Hid ((x.refs.take (k+1)).all fOk=true):=by show _=_;rw [ap.out,hh.out];rfl
      clear ao ap;go_wp2_with (go_at_call 146;(with_reducible refine (kc.out _).mono ?_);rintro _ w1 ⟨rfl,f1⟩);go_roundw
      case rel=>exact ⟨k+1,by go_num,by omega,ar,hf.trans f1 zr⟩
      case measure=>simp [intOf];omega
    ·
     obtain rfl:ak=k:=by omega
     have av:x.refs.all fOk=true:=by have h:=hh.out;rw [An5 (by rw [af.out];omega)] at h;exact h
     replace aa:Hid (LB=(x.past.all Id.named&&(x.path.all (fun y=>Ar y.p&&y.xs.all Bx.may)&&(x.hist.all (fun y=>y.f.named)&&(x.boxes.all Bx.may))))):=by show _=_;rw [aa.out,av];rfl
     clear av hh a0 af hlt hk;go_wp2_with fail
     go_loopw [5] (fun v wr=>∃k:Nat,v=.int .i64 (k:Int)/\k<=al/\Hid ((x.past.take k).all Id.named=true)/\Fr Non w0 wr) (fun v _=>al-(intOf v).toNat)
     case atStart=>exact ⟨0,rfl,by omega,rfl,hf⟩
     case round=>
      obtain ⟨k,rfl,hk,hh,hf⟩:=hrel;have cc:=hf.cell c4 zq
      by_cases hlt:k<al
      ·
       obtain ⟨i1,i2,i3⟩:=ix k al
       obtain ⟨y,hy⟩:∃y,x.past[k]? =some y:=⟨_,An3 (by rw [ah.out];exact hlt)⟩;obtain ⟨b,a7,hA,bd,k0,k1,k2⟩:=Id.at (aw.fr hf zr) hy;rw [hA] at cc;have ad:=An4 hy;have ap:Hid ((x.past.take (k+1)).all Id.named=((x.past.take k).all Id.named&&y.named)):=Ez x.past Id.named hy;have ao:Hid (y.named=false->x.past.all Id.named=false):=fun h=>List.all_eq_false.2 ⟨y,ad,by rw [h];simp⟩;clear hy ad;have kc:=lh (fun w'=>K9 y w');generalize y.named=pb at*
       cases pb
       ·
        have hv:Hid (false=LB):=by show _=_;rw [aa.out,ao.out rfl];rfl
        clear aa ao ap;go_wp2_with (go_at_call 144;(with_reducible refine (kc.out _).mono ?_);rintro _ w1 ⟨rfl,f1⟩)
        go_ret
        exact ⟨congrArg (fun z=>ze (.bool z)) hv.out,(f0.trans hf zr).trans f1 zr⟩
       ·
        have ar:Hid ((x.past.take (k+1)).all Id.named=true):=by show _=_;rw [ap.out,hh.out];rfl
        clear ao ap;go_wp2_with (go_at_call 144;(with_reducible refine (kc.out _).mono ?_);rintro _ w1 ⟨rfl,f1⟩);go_roundw
        case rel=>exact ⟨k+1,by go_num,by omega,ar,hf.trans f1 zr⟩
        case measure=>simp [intOf];omega
      ·
       obtain rfl:al=k:=by omega
       have av:x.past.all Id.named=true:=by have h:=hh.out;rw [An5 (by rw [ah.out];omega)] at h;exact h
       replace aa:Hid (LB=(x.path.all (fun y=>Ar y.p&&y.xs.all Bx.may)&&(x.hist.all (fun y=>y.f.named)&&(x.boxes.all Bx.may)))):=by show _=_;rw [aa.out,av];rfl
       clear av hh aw ah hlt hk;go_wp2_with fail
       go_loopw [6] (fun v wr=>∃k:Nat,v=.int .i64 (k:Int)/\k<=aj/\Hid ((x.path.take k).all (fun y=>Ar y.p&&y.xs.all Bx.may)=true)/\Fr Non w0 wr) (fun v _=>aj-(intOf v).toNat)
       case atStart=>exact ⟨0,rfl,by omega,rfl,hf⟩
       case round=>
        obtain ⟨k,rfl,hk,hh,hf⟩:=hrel;have cc:=hf.cell c9 zq
        by_cases hlt:k<aj
        ·
         obtain ⟨i1,i2,i3⟩:=ix k aj
         obtain ⟨y,hy⟩:∃y,x.path[k]? =some y:=⟨_,An3 (by rw [ag.out];exact hlt)⟩;obtain ⟨b,a7,hA,bd,k0,k1⟩:=NdL.el (ax.fr hf zr) hy;rw [hA] at cc;have ad:=An4 hy;have ap:Hid ((x.path.take (k+1)).all (fun y=>Ar y.p&&y.xs.all Bx.may)=((x.path.take k).all (fun y=>Ar y.p&&y.xs.all Bx.may)&&(Ar y.p&&y.xs.all Bx.may))):=Ez x.path (fun y=>Ar y.p&&y.xs.all Bx.may) hy;have ao:Hid ((Ar y.p&&y.xs.all Bx.may)=false->x.path.all (fun y=>Ar y.p&&y.xs.all Bx.may)=false):=fun h=>List.all_eq_false.2 ⟨y,ad,by rw [h];simp⟩;have bj:=(a5.out y ad).fr hf zr;have bi:=a4.out y ad;clear hy ad;have kc:=lh (fun w'=>Ir y.p w');have kd:=lh (fun w' (h:Fr Non wr w')=>Qe w.heap.size y.xs.length y.c y.A y.xs w' rfl (bj.1.fr h zr) bi);generalize Ar y.p=pb at*;generalize y.xs.all Bx.may=pd at*
         cases pb
         ·
          have hv:Hid (false=LB):=by show _=_;rw [aa.out,ao.out rfl];rfl
          clear aa ao ap;go_wp2_with (first|(go_at_call 145;(with_reducible refine (kc.out _).mono ?_);rintro _ w1 ⟨rfl,f1⟩;obtain ⟨cc,k0,k1⟩:=zk3 f1 cc k0 k1)|(go_at_call 147;(with_reducible refine (kd.out _ f1).mono ?_);rintro _ w2 ⟨rfl,f2⟩;have bc:=f1.trans f2 zr))
          go_ret
          exact ⟨congrArg (fun z=>ze (.bool z)) hv.out,(f0.trans hf zr).trans f1 zr⟩
         cases pd
         ·
          have hv:Hid (false=LB):=by show _=_;rw [aa.out,ao.out rfl];rfl
          clear aa ao ap;go_wp2_with (first|(go_at_call 145;(with_reducible refine (kc.out _).mono ?_);rintro _ w1 ⟨rfl,f1⟩;obtain ⟨cc,k0,k1⟩:=zk3 f1 cc k0 k1)|(go_at_call 147;(with_reducible refine (kd.out _ f1).mono ?_);rintro _ w2 ⟨rfl,f2⟩;have bc:=f1.trans f2 zr))
          go_ret
          exact ⟨congrArg (fun z=>ze (.bool z)) hv.out,(f0.trans hf zr).trans bc zr⟩
         ·
          have ar:Hid ((x.path.take (k+1)).all (fun y=>Ar y.p&&y.xs.all Bx.may)=true):=by show _=_;rw [ap.out,hh.out];rfl
          clear ao ap;go_wp2_with (first|(go_at_call 145;(with_reducible refine (kc.out _).mono ?_);rintro _ w1 ⟨rfl,f1⟩;obtain ⟨cc,k0,k1⟩:=zk3 f1 cc k0 k1)|(go_at_call 147;(with_reducible refine (kd.out _ f1).mono ?_);rintro _ w2 ⟨rfl,f2⟩;have bc:=f1.trans f2 zr));go_roundw
          case rel=>exact ⟨k+1,by go_num,by omega,ar,hf.trans bc zr⟩
          case measure=>simp [intOf];omega
        ·
         obtain rfl:aj=k:=by omega
         have av:x.path.all (fun y=>Ar y.p&&y.xs.all Bx.may)=true:=by have h:=hh.out;rw [An5 (by rw [ag.out];omega)] at h;exact h
         replace aa:Hid (LB=(x.hist.all (fun y=>y.f.named)&&(x.boxes.all Bx.may))):=by show _=_;rw [aa.out,av];rfl
         clear av hh ax ag hlt hk;go_wp2_with fail
         go_loopw [7] (fun v wr=>∃k:Nat,v=.int .i64 (k:Int)/\k<=ai/\Hid ((x.hist.take k).all (fun y=>y.f.named)=true)/\Fr Non w0 wr) (fun v _=>ai-(intOf v).toNat)
         case atStart=>exact ⟨0,rfl,by omega,rfl,hf⟩
         case round=>
          obtain ⟨k,rfl,hk,hh,hf⟩:=hrel;have cc:=hf.cell bh zq
          by_cases hlt:k<ai
          ·
           obtain ⟨i1,i2,i3⟩:=ix k ai
           obtain ⟨y,hy⟩:∃y,x.hist[k]? =some y:=⟨_,An3 (by rw [ae.out];exact hlt)⟩;obtain ⟨b,a7,hA,bd,k0,k1,k2,k3⟩:=SlL.el (ay.fr hf zr) hy;rw [hA] at cc;have ad:=An4 hy;have ap:Hid ((x.hist.take (k+1)).all (fun y=>y.f.named)=((x.hist.take k).all (fun y=>y.f.named)&&y.f.named)):=Ez x.hist (fun y=>y.f.named) hy;have ao:Hid (y.f.named=false->x.hist.all (fun y=>y.f.named)=false):=fun h=>List.all_eq_false.2 ⟨y,ad,by rw [h];simp⟩;clear hy ad;have kc:=lh (fun w'=>K9 y.f w');generalize y.f.named=pb at*
           cases pb
           ·
            have hv:Hid (false=LB):=by show _=_;rw [aa.out,ao.out rfl];rfl
            clear aa ao ap;go_wp2_with (go_at_call 144;(with_reducible refine (kc.out _).mono ?_);rintro _ w1 ⟨rfl,f1⟩)
            go_ret
            exact ⟨congrArg (fun z=>ze (.bool z)) hv.out,(f0.trans hf zr).trans f1 zr⟩
           ·
            have ar:Hid ((x.hist.take (k+1)).all (fun y=>y.f.named)=true):=by show _=_;rw [ap.out,hh.out];rfl
            clear ao ap;go_wp2_with (go_at_call 144;(with_reducible refine (kc.out _).mono ?_);rintro _ w1 ⟨rfl,f1⟩);go_roundw
            case rel=>exact ⟨k+1,by go_num,by omega,ar,hf.trans f1 zr⟩
            case measure=>simp [intOf];omega
          ·
           obtain rfl:ai=k:=by omega
           have av:x.hist.all (fun y=>y.f.named)=true:=by have h:=hh.out;rw [An5 (by rw [ae.out];omega)] at h;exact h
           replace aa:Hid (LB=(x.boxes.all Bx.may)):=by show _=_;rw [aa.out,av];rfl
           clear av hh ay ae hlt hk;have cb:=hf.cell bg zq;have kb:=lh (Qe w.heap.size a2 x.boxesC x.boxesA x.boxes wr au (az.fr hf zr) a1);rw [<- aa.out] at kb;clear aa;go_wp2_with (go_at_call 147;(with_reducible refine kb.out.mono ?_);rintro _ w2 ⟨rfl,f2⟩)
           go_ret
           exact ⟨rfl,(f0.trans hf zr).trans f2 zr⟩
def OpL.numsR (x:OpL):Bool:=(inR x.by_ 1 12&&inR x.sq 1 2147483647&&inR x.at_ 0 2147483647)&&(
 bif (x.kind==1) then inR x.need 0 20 else
 bif (x.kind==2) then (inR x.dev 1 12&&inR x.role 1 3) else
 bif (x.kind==3) then ((inR x.dev 1 12&&(x.mem==0))||((x.dev==0)&&inR x.mem 1 8)) else
 bif (x.kind==5) then (inR x.mem 1 8&&inR x.role 1 3) else
 bif (x.kind==6) then (x.epoch.named&&inR x.n 0 2147483647) else
 bif (x.kind==9) then (inR x.need 1 x.guards.length&&inR x.wait 0 2147483647&&Ar x.pub) else
 bif (x.kind==11) then (x.of.named&&inR x.dev 1 12) else
 bif (x.kind==13) then (x.of.named&&inR x.dev 1 12&&inR x.old 1 12) else
 bif (x.kind==4) then true else
 x.of.named)
theorem Zx (x:OpL) (w:World):Calls zp 110 #[.agg x.cells] w (Ae x.numsR w):=by
 have ab:=Blk.new w 44 x.cells;have fz:Fr Non w (w.alloc (.cells x.cells 44)):=(Fr.refl Non w).alloc _;have c0:cI (w.alloc (.cells x.cells 44)) w.heap.size 0 x.by_:=ab.cell 0;have c1:cI (w.alloc (.cells x.cells 44)) w.heap.size 1 x.sq:=ab.cell 1;have c2:cI (w.alloc (.cells x.cells 44)) w.heap.size 2 x.kind:=ab.cell 2;have c3:cI (w.alloc (.cells x.cells 44)) w.heap.size 3 x.at_:=ab.cell 3;have c5:cI (w.alloc (.cells x.cells 44)) w.heap.size 5 x.dev:=ab.cell 5;have c6:cI (w.alloc (.cells x.cells 44)) w.heap.size 6 x.old:=ab.cell 6;have c7:cI (w.alloc (.cells x.cells 44)) w.heap.size 7 x.mem:=ab.cell 7;have c8:cI (w.alloc (.cells x.cells 44)) w.heap.size 8 x.role:=ab.cell 8;have ah:cI (w.alloc (.cells x.cells 44)) w.heap.size 10 x.epoch.b:=ab.cell 10;have al:cI (w.alloc (.cells x.cells 44)) w.heap.size 11 x.epoch.s:=ab.cell 11;have ae:cU (w.alloc (.cells x.cells 44)) w.heap.size 12 x.epoch.u:=ab.cell 12;have ac:cI (w.alloc (.cells x.cells 44)) w.heap.size 13 x.n:=ab.cell 13;have ao:cI (w.alloc (.cells x.cells 44)) w.heap.size 16 x.of.b:=ab.cell 16;have ai:cI (w.alloc (.cells x.cells 44)) w.heap.size 17 x.of.s:=ab.cell 17;have ag:cU (w.alloc (.cells x.cells 44)) w.heap.size 18 x.of.u:=ab.cell 18;have ad:cS (w.alloc (.cells x.cells 44)) w.heap.size 19 x.guardsA x.guards.length x.guardsC:=ab.cell 19;have ak:cI (w.alloc (.cells x.cells 44)) w.heap.size 20 x.need:=ab.cell 20;have af:cI (w.alloc (.cells x.cells 44)) w.heap.size 21 x.wait:=ab.cell 21;have aj:cU (w.alloc (.cells x.cells 44)) w.heap.size 23 x.pub:=ab.cell 23;generalize x.cells=CS at*;clear ab;have ax:Hid (x.numsR=x.numsR):=rfl;have aa:Hid (x.numsR=((inR x.by_ 1 12&&inR x.sq 1 2147483647&&inR x.at_ 0 2147483647)&&(
 bif (x.kind==1) then inR x.need 0 20 else
 bif (x.kind==2) then (inR x.dev 1 12&&inR x.role 1 3) else
 bif (x.kind==3) then ((inR x.dev 1 12&&(x.mem==0))||((x.dev==0)&&inR x.mem 1 8)) else
 bif (x.kind==5) then (inR x.mem 1 8&&inR x.role 1 3) else
 bif (x.kind==6) then (x.epoch.named&&inR x.n 0 2147483647) else
 bif (x.kind==9) then (inR x.need 1 x.guards.length&&inR x.wait 0 2147483647&&Ar x.pub) else
 bif (x.kind==11) then (x.of.named&&inR x.dev 1 12) else
 bif (x.kind==13) then (x.of.named&&inR x.dev 1 12&&inR x.old 1 12) else
 bif (x.kind==4) then true else
 x.of.named))):=rfl
 generalize hLB:x.numsR=LB at*;clear hLB ax
 rcases zb (inR x.by_ 1 12) with t1|t1
 focus
  rcases zb (inR x.sq 1 2147483647) with t2|t2
  focus
   rcases zb (inR x.at_ 0 2147483647) with t3|t3
   focus
    rcases zb (x.kind==1) with t4|t4
    focus
     have az:(x.kind !=1)=false:=by rw [bne,t4];rfl
     rcases zb (inR x.need 0 20) with t5|t5
     focus
      have hv:Hid (true=LB):=by show _=_;rw [aa.out];simp [t1,t2,t3,t4,t5]
     rotate_left
     focus
      have hv:Hid (false=LB):=by show _=_;rw [aa.out];simp [t1,t2,t3,t4,t5]
    rotate_left 2
    focus
     have az:(x.kind !=1)=true:=by rw [bne,t4];rfl
     rcases zb (x.kind==2) with t6|t6
     focus
      have ay:(x.kind !=2)=false:=by rw [bne,t6];rfl
      rcases zb (inR x.dev 1 12) with t7|t7
      focus
       rcases zb (inR x.role 1 3) with t8|t8
       focus
        have hv:Hid (true=LB):=by show _=_;rw [aa.out];simp [t1,t2,t3,t4,t6,t7,t8]
       rotate_left
       focus
        have hv:Hid (false=LB):=by show _=_;rw [aa.out];simp [t1,t2,t3,t4,t6,t7,t8]
      rotate_left 2
      focus
       have hv:Hid (false=LB):=by show _=_;rw [aa.out];simp [t1,t2,t3,t4,t6,t7]
     rotate_left 3
     focus
      have ay:(x.kind !=2)=true:=by rw [bne,t6];rfl
      rcases zb (x.kind==3) with t9|t9
      focus
       have a0:(x.kind !=3)=false:=by rw [bne,t9];rfl
       rcases zb (inR x.dev 1 12) with t10|t10
       focus
        rcases zb (x.mem==0) with t11|t11
        focus
         have hv:Hid (true=LB):=by show _=_;rw [aa.out];simp [t1,t2,t3,t4,t6,t9,t10,t11]
        rotate_left
        focus
         rcases zb (x.dev==0) with t12|t12
         focus
          rcases zb (inR x.mem 1 8) with t13|t13
          focus
           have hv:Hid (true=LB):=by show _=_;rw [aa.out];simp [t1,t2,t3,t4,t6,t9,t10,t11,t12,t13]
          rotate_left
          focus
           have hv:Hid (false=LB):=by show _=_;rw [aa.out];simp [t1,t2,t3,t4,t6,t9,t10,t11,t12,t13]
         rotate_left 2
         focus
          have hv:Hid (false=LB):=by show _=_;rw [aa.out];simp [t1,t2,t3,t4,t6,t9,t10,t11,t12]
       rotate_left 4
       focus
        rcases zb (x.dev==0) with t14|t14
        focus
         rcases zb (inR x.mem 1 8) with t15|t15
         focus
          have hv:Hid (true=LB):=by show _=_;rw [aa.out];simp [t1,t2,t3,t4,t6,t9,t10,t14,t15]
         rotate_left
         focus
          have hv:Hid (false=LB):=by show _=_;rw [aa.out];simp [t1,t2,t3,t4,t6,t9,t10,t14,t15]
        rotate_left 2
        focus
         have hv:Hid (false=LB):=by show _=_;rw [aa.out];simp [t1,t2,t3,t4,t6,t9,t10,t14]
      rotate_left 7
      focus
       have a0:(x.kind !=3)=true:=by rw [bne,t9];rfl
       rcases zb (x.kind==5) with t16|t16
       focus
        have ar:(x.kind !=5)=false:=by rw [bne,t16];rfl
        rcases zb (inR x.mem 1 8) with t17|t17
        focus
         rcases zb (inR x.role 1 3) with t18|t18
         focus
          have hv:Hid (true=LB):=by show _=_;rw [aa.out];simp [t1,t2,t3,t4,t6,t9,t16,t17,t18]
         rotate_left
         focus
          have hv:Hid (false=LB):=by show _=_;rw [aa.out];simp [t1,t2,t3,t4,t6,t9,t16,t17,t18]
        rotate_left 2
        focus
         have hv:Hid (false=LB):=by show _=_;rw [aa.out];simp [t1,t2,t3,t4,t6,t9,t16,t17]
       rotate_left 3
       focus
        have ar:(x.kind !=5)=true:=by rw [bne,t16];rfl
        rcases zb (x.kind==6) with t19|t19
        focus
         have ap:(x.kind !=6)=false:=by rw [bne,t19];rfl
         rcases zb (x.epoch.named) with t20|t20
         focus
          rcases zb (inR x.n 0 2147483647) with t21|t21
          focus
           have hv:Hid (true=LB):=by show _=_;rw [aa.out];simp [t1,t2,t3,t4,t6,t9,t16,t19,t20,t21]
          rotate_left
          focus
           have hv:Hid (false=LB):=by show _=_;rw [aa.out];simp [t1,t2,t3,t4,t6,t9,t16,t19,t20,t21]
         rotate_left 2
         focus
          have hv:Hid (false=LB):=by show _=_;rw [aa.out];simp [t1,t2,t3,t4,t6,t9,t16,t19,t20]
        rotate_left 3
        focus
         have ap:(x.kind !=6)=true:=by rw [bne,t19];rfl
         rcases zb (x.kind==9) with t22|t22
         focus
          have aq:(x.kind !=9)=false:=by rw [bne,t22];rfl
          rcases zb (inR x.need 1 x.guards.length) with t23|t23
          focus
           rcases zb (inR x.wait 0 2147483647) with t24|t24
           focus
            rcases zb (Ar x.pub) with t25|t25
            focus
             have hv:Hid (true=LB):=by show _=_;rw [aa.out];simp [t1,t2,t3,t4,t6,t9,t16,t19,t22,t23,t24,t25]
            rotate_left
            focus
             have hv:Hid (false=LB):=by show _=_;rw [aa.out];simp [t1,t2,t3,t4,t6,t9,t16,t19,t22,t23,t24,t25]
           rotate_left 2
           focus
            have hv:Hid (false=LB):=by show _=_;rw [aa.out];simp [t1,t2,t3,t4,t6,t9,t16,t19,t22,t23,t24]
          rotate_left 3
          focus
           have hv:Hid (false=LB):=by show _=_;rw [aa.out];simp [t1,t2,t3,t4,t6,t9,t16,t19,t22,t23]
         rotate_left 4
         focus
          have aq:(x.kind !=9)=true:=by rw [bne,t22];rfl
          rcases zb (x.kind==11) with t26|t26
          focus
           have av:(x.kind !=11)=false:=by rw [bne,t26];rfl
           rcases zb (x.of.named) with t27|t27
           focus
            rcases zb (inR x.dev 1 12) with t28|t28
            focus
             have hv:Hid (true=LB):=by show _=_;rw [aa.out];simp [t1,t2,t3,t4,t6,t9,t16,t19,t22,t26,t27,t28]
            rotate_left
            focus
             have hv:Hid (false=LB):=by show _=_;rw [aa.out];simp [t1,t2,t3,t4,t6,t9,t16,t19,t22,t26,t27,t28]
           rotate_left 2
           focus
            have hv:Hid (false=LB):=by show _=_;rw [aa.out];simp [t1,t2,t3,t4,t6,t9,t16,t19,t22,t26,t27]
          rotate_left 3
          focus
           have av:(x.kind !=11)=true:=by rw [bne,t26];rfl
           rcases zb (x.kind==13) with t29|t29
           focus
            have au:(x.kind !=13)=false:=by rw [bne,t29];rfl
            rcases zb (x.of.named) with t30|t30
            focus
             rcases zb (inR x.dev 1 12) with t31|t31
             focus
              rcases zb (inR x.old 1 12) with t32|t32
              focus
               have hv:Hid (true=LB):=by show _=_;rw [aa.out];simp [t1,t2,t3,t4,t6,t9,t16,t19,t22,t26,t29,t30,t31,t32]
              rotate_left
              focus
               have hv:Hid (false=LB):=by show _=_;rw [aa.out];simp [t1,t2,t3,t4,t6,t9,t16,t19,t22,t26,t29,t30,t31,t32]
             rotate_left 2
             focus
              have hv:Hid (false=LB):=by show _=_;rw [aa.out];simp [t1,t2,t3,t4,t6,t9,t16,t19,t22,t26,t29,t30,t31]
            rotate_left 3
            focus
             have hv:Hid (false=LB):=by show _=_;rw [aa.out];simp [t1,t2,t3,t4,t6,t9,t16,t19,t22,t26,t29,t30]
           rotate_left 4
           focus
            have au:(x.kind !=13)=true:=by rw [bne,t29];rfl
            rcases zb (x.kind==4) with t33|t33
            focus
             have aw:(x.kind !=4)=false:=by rw [bne,t33];rfl
             have hv:Hid (true=LB):=by show _=_;rw [aa.out];simp [t1,t2,t3,t4,t6,t9,t16,t19,t22,t26,t29,t33]
            rotate_left
            focus
             have aw:(x.kind !=4)=true:=by rw [bne,t33];rfl
             rcases zb (x.of.named) with t34|t34
             focus
              have hv:Hid (true=LB):=by show _=_;rw [aa.out];simp [t1,t2,t3,t4,t6,t9,t16,t19,t22,t26,t29,t33,t34]
             rotate_left
             focus
              have hv:Hid (false=LB):=by show _=_;rw [aa.out];simp [t1,t2,t3,t4,t6,t9,t16,t19,t22,t26,t29,t33,t34]
   rotate_left 32
   focus
    have hv:Hid (false=LB):=by show _=_;rw [aa.out];simp [t1,t2,t3]
  rotate_left 33
  focus
   have hv:Hid (false=LB):=by show _=_;rw [aa.out];simp [t1,t2]
 rotate_left 34
 focus
  have hv:Hid (false=LB):=by show _=_;rw [aa.out];simp [t1]
 all_goals
  clear aa;go_enter func110,ntmps110;go_wp2_with (first|(go_at_call 143;(with_reducible refine (Ga _ _ _ _).mono ?_);rintro _ v ⟨rfl,f⟩;have fz:=fz.trans f zr;obtain ⟨c0,c1,c2,c3,c5,c6,c7,c8⟩:=zk8 f c0 c1 c2 c3 c5 c6 c7 c8;obtain ⟨ah,al,ae,ac,ao,ai,ag,ad⟩:=zk8 f ah al ae ac ao ai ag ad;obtain ⟨ak,af,aj⟩:=zk3 f ak af aj)|(go_at_call 144;(with_reducible refine (K9 _ _).mono ?_);rintro _ v ⟨rfl,f⟩;have fz:=fz.trans f zr;obtain ⟨c0,c1,c2,c3,c5,c6,c7,c8⟩:=zk8 f c0 c1 c2 c3 c5 c6 c7 c8;obtain ⟨ah,al,ae,ac,ao,ai,ag,ad⟩:=zk8 f ah al ae ac ao ai ag ad;obtain ⟨ak,af,aj⟩:=zk3 f ak af aj)|(go_at_call 145;(with_reducible refine (Ir _ _).mono ?_);rintro _ v ⟨rfl,f⟩;have fz:=fz.trans f zr;obtain ⟨c0,c1,c2,c3,c5,c6,c7,c8⟩:=zk8 f c0 c1 c2 c3 c5 c6 c7 c8;obtain ⟨ah,al,ae,ac,ao,ai,ag,ad⟩:=zk8 f ah al ae ac ao ai ag ad;obtain ⟨ak,af,aj⟩:=zk3 f ak af aj))
  go_ret
  exact ⟨congrArg (fun z=>ze (.bool z)) hv.out,fz⟩
end Oq
end
end Go.Proofs.YtihfebhfgliojaaGreatDoor
