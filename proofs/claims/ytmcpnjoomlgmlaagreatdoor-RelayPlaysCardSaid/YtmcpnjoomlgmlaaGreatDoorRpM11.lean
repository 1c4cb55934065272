/- Contracts of functions, walked (part 11).
Conditions: as each theorem says. -/
import Derived.Test.YtmcpnjoomlgmlaaGreatDoorRpM10
set_option maxRecDepth 100000
set_option maxHeartbeats 16000000
open Go.Proofs.Tryz
open Go.Proofs.Tryz renaming prog->zp
open Go.Lib renaming hid->lh
open List renaming set->zl
open Go.Ending renaming returned->ze
namespace Go.Proofs.YtmcpnjoomlgmlaaGreatDoor
attribute [local go_sem ↓] Go.wp_at_zero Go.wp_at_succ
section
open Go.RowKit Go.Maps
namespace Oq
attribute [local go_sem] Bool.not_false Bool.not_true
def OpL.ls (x:OpL):Int:=if x.kind=3 then 0 else 1
def OpL.nd (x:OpL):Int:=if x.kind=1 then 0 else 1
def OpL.mo (x:OpL):Int:=if x.kind=1 then 20 else (x.guards.length:Int)
def OpL.mb (x:OpL):Bool:=if x.kind=3 then ((inR x.mem 1 8&&x.dev==0)||(x.mem==0&&x.dev !=0)) else inR x.mem 1 8
def OpL.mayB (x:OpL) (j:Nat):Bool:=match j with
 |0=>inR x.dev x.ls 12
 |1=>inR x.old 1 12
 |2=>x.mb
 |3=>inR x.role 1 3
 |5=>x.epoch.named
 |6=>inR x.n 0 2147483647
 |9=>x.of.named
 |11=>inR x.need x.nd x.mo
 |12=>inR x.wait 0 2147483647
 |14=>Dc x.pub
 |_=>true
def OpL.itemsL (x:OpL):Bool:=x.guards.all (fun n=>inR n 1 12)&&(x.refs.all fOk&&(x.past.all Id.named&&(x.path.all (fun y=>Dc y.p&&y.xs.all Bx.may)&&(x.boxes.all Bx.may&&x.hist.all (fun y=>y.f.named)))))
def OpL.loopB (x:OpL) (has:Nat):Bool:=(List.range 16).all (fun j=> !has.testBit j||x.mayB j)
def OpL.rngB (x:OpL) (has:Nat):Bool:=inR x.by_ 1 12&&(inR x.sq 1 2147483647&&(inR x.at_ 0 2147483647&&(x.loopB has&&x.itemsL)))
def RA (x:OpL) (has:Nat) (left:Lit->Bool):Prop:=∀j,j<16->left (.int .i64 ((2^j:Nat):Int))=false->has.testBit j=true->x.mayB j=true
def mayIns:List (Nat × Int × Nat):=[(5,(1:Int),62),(9,(2:Int),65),(11,(4:Int),66),(15,(8:Int),69),(19,(64:Int),72),(23,(4096:Int),75),(29,(2048:Int),80),(33,(32:Int),83),(37,(512:Int),86),(41,(16384:Int),89)]
def To (x:OpL) (t:Nat):Bool:=match t with
 |62=>x.mayB 0
 |65=>x.mayB 1
 |66=>x.mayB 2
 |69=>x.mayB 3
 |72=>x.mayB 6
 |75=>x.mayB 12
 |80=>x.mayB 11
 |83=>x.mayB 5
 |86=>x.mayB 9
 |89=>x.mayB 14
 |_=>false
def mayCv (x:OpL) (t:Nat):Bool:=match t with
 |4=>x.mayB 0
 |8=>x.mayB 1
 |14=>x.mayB 3
 |18=>x.mayB 6
 |22=>x.mayB 12
 |28=>x.mayB 11
 |32=>x.mayB 5
 |36=>x.mayB 9
 |40=>x.mayB 14
 |_=>false
theorem Al8 (x:OpL):∀y∈mayIns,∃j,j<16/\y.2.1=((2^j:Nat):Int)/\To x y.2.2=x.mayB j:=by
 unfold mayIns;refine List.forall_mem_cons.2 ⟨⟨0,by decide,rfl,rfl⟩,?_⟩;refine List.forall_mem_cons.2 ⟨⟨1,by decide,rfl,rfl⟩,?_⟩;refine List.forall_mem_cons.2 ⟨⟨2,by decide,rfl,rfl⟩,?_⟩;refine List.forall_mem_cons.2 ⟨⟨3,by decide,rfl,rfl⟩,?_⟩;refine List.forall_mem_cons.2 ⟨⟨6,by decide,rfl,rfl⟩,?_⟩;refine List.forall_mem_cons.2 ⟨⟨12,by decide,rfl,rfl⟩,?_⟩;refine List.forall_mem_cons.2 ⟨⟨11,by decide,rfl,rfl⟩,?_⟩;refine List.forall_mem_cons.2 ⟨⟨5,by decide,rfl,rfl⟩,?_⟩;refine List.forall_mem_cons.2 ⟨⟨9,by decide,rfl,rfl⟩,?_⟩;refine List.forall_mem_cons.2 ⟨⟨14,by decide,rfl,rfl⟩,?_⟩;exact fun y hy=>absurd hy (by simp)
theorem Al9:∀j,j<16->(mayIns.find? (fun y=>y.2.1==((2^j:Nat):Int))).isSome=false->j=4\/j=7\/j=8\/j=10\/j=13\/j=15:=by decide
theorem RA.start {x:OpL} {has:Nat} {left:Lit->Bool} (h:∀j,j<16->left (.int .i64 ((2^j:Nat):Int))=(mayIns.find? (fun y=>y.2.1==((2^j:Nat):Int))).isSome):RA x has left:=by
 intro j hj hl _;rw [h j hj] at hl
 rcases Al9 j hj hl with rfl|rfl|rfl|rfl|rfl|rfl<;>rfl
theorem RA.step {x:OpL} {has j:Nat} {left:Lit->Bool} (h:RA x has left) (hj:j<16) (hb:has.testBit j=true->x.mayB j=true):RA x has (fun z=>left z&& !z.sameKey (.int .i64 ((2^j:Nat):Int))):=by
 intro i hi hl hbi
 by_cases hij:i=j
 ·
  subst hij;exact hb hbi
 ·
  replace hl:(left (.int .i64 ((2^i:Nat):Int))&& !(Lit.int .i64 ((2^i:Nat):Int)).sameKey (.int .i64 ((2^j:Nat):Int)))=false:=hl;rw [Tj hij] at hl;exact h i hi (by simpa using hl) hbi
theorem RA.done {x:OpL} {has:Nat} {left:Lit->Bool} (h:RA x has left) (hl:∀kl,left kl=false):x.loopB has=true:=by
 unfold OpL.loopB;rw [List.all_eq_true];intro j hj;have hj':j<16:=by simpa using hj
 cases hb:has.testBit j with
 |false=>rfl
 |true=>rw [h j hj' (hl _) hb];rfl
theorem Am0 {x:OpL} {has j:Nat} (hj:j<16) (hb:has.testBit j=true) (hm:x.mayB j=false):x.loopB has=false:=by
 unfold OpL.loopB;rw [List.all_eq_false];exact ⟨j,by simpa using hj,by rw [hb,hm];decide⟩
theorem Am1 (x:OpL) (has:Nat) (hhas:has<65536) (w:World) (hat:x.at w w.heap.size) (hok:x.op.ok):Calls zp 146 #[.agg x.cells,.int .i64 (has:Int)] w (Ae (x.rngB has) w):=by
 have bb:=Blk.new w 52 x.cells;have f0:Fr Non w (w.alloc (.cells x.cells 52)):=(Fr.refl Non w).alloc _;have c0:cI (w.alloc (.cells x.cells 52)) w.heap.size 0 x.by_:=bb.cell 0;have c1:cI (w.alloc (.cells x.cells 52)) w.heap.size 1 x.sq:=bb.cell 1;have c2:cI (w.alloc (.cells x.cells 52)) w.heap.size 2 x.kind:=bb.cell 2;have c3:cI (w.alloc (.cells x.cells 52)) w.heap.size 3 x.at_:=bb.cell 3;have c4:cS (w.alloc (.cells x.cells 52)) w.heap.size 4 x.pastA x.past.length x.pastC:=bb.cell 4;have c5:cI (w.alloc (.cells x.cells 52)) w.heap.size 5 x.dev:=bb.cell 5;have c6:cI (w.alloc (.cells x.cells 52)) w.heap.size 6 x.old:=bb.cell 6;have c7:cI (w.alloc (.cells x.cells 52)) w.heap.size 7 x.mem:=bb.cell 7;have c8:cI (w.alloc (.cells x.cells 52)) w.heap.size 8 x.role:=bb.cell 8;have c9:cS (w.alloc (.cells x.cells 52)) w.heap.size 9 x.pathA x.path.length x.pathC:=bb.cell 9;have dm:cI (w.alloc (.cells x.cells 52)) w.heap.size 10 x.epoch.b:=bb.cell 10;have cy:cI (w.alloc (.cells x.cells 52)) w.heap.size 11 x.epoch.s:=bb.cell 11;have d2:cU (w.alloc (.cells x.cells 52)) w.heap.size 12 x.epoch.u:=bb.cell 12;have df:cI (w.alloc (.cells x.cells 52)) w.heap.size 13 x.n:=bb.cell 13;have ba:cS (w.alloc (.cells x.cells 52)) w.heap.size 15 x.refsA x.refs.length x.refsC:=bb.cell 15;have cz:cI (w.alloc (.cells x.cells 52)) w.heap.size 16 x.of.b:=bb.cell 16;have dr:cI (w.alloc (.cells x.cells 52)) w.heap.size 17 x.of.s:=bb.cell 17;have dp:cU (w.alloc (.cells x.cells 52)) w.heap.size 18 x.of.u:=bb.cell 18;have cb:cS (w.alloc (.cells x.cells 52)) w.heap.size 19 x.guardsA x.guards.length x.guardsC:=bb.cell 19;have cv:cI (w.alloc (.cells x.cells 52)) w.heap.size 20 x.need:=bb.cell 20;have dh:cI (w.alloc (.cells x.cells 52)) w.heap.size 21 x.wait:=bb.cell 21;have ab:cS (w.alloc (.cells x.cells 52)) w.heap.size 22 x.boxesA x.boxes.length x.boxesC:=bb.cell 22;have da:cU (w.alloc (.cells x.cells 52)) w.heap.size 23 x.pub:=bb.cell 23;have aa:cS (w.alloc (.cells x.cells 52)) w.heap.size 24 x.histA x.hist.length x.histC:=bb.cell 24;have cc:x.guards.length<=1000000:=by have h:=hok.guards.1;rw [show x.op.guards=x.guards from rfl] at h;omega
 have d3:x.refs.length<=1000000:=by have h:=hok.refs.1;rw [show x.op.refs=x.refs from rfl] at h;omega
 have ce:x.boxes.length<=1000000:=by have h:=hok.boxes.1;rw [show x.op.boxes=x.boxes from rfl] at h;omega
 have cd:∀y∈x.path,y.xs.length<=1000000:=fun y hy=>by have h:=(hok.path.2 y.nd (List.mem_map.2 ⟨y,hy,rfl⟩)).2.1;rw [show y.nd.xs=y.xs from rfl] at h;omega
 have dw:x.past.length<=1000000:=by have h:=hok.past.1;rw [show x.op.past=x.past from rfl] at h;omega
 have dg:x.path.length<=1000000:=by have h:=hok.path.1;rw [show x.op.path=x.path.map NdL.nd from rfl,List.length_map] at h;omega
 have ds:x.hist.length<=1000000:=by have h:=hok.hist.1;rw [show x.op.hist=x.hist.map SlL.sl from rfl,List.length_map] at h;omega
 have dq:=lh (fun w'=>Eb x.by_ 1 12 w');have dn:=lh (fun w'=>Eb x.sq 1 2147483647 w');have dv:=lh (fun w'=>Eb x.at_ 0 2147483647 w');have km:=lh (fun w'=>Eb x.mem 1 8 w');have cs:=lh (fun (w':World) (h:Fr Non w w')=>Aj2 w.heap.size x.guards.length x.guardsC x.guardsA x.guards (fun n=>inR n 1 12) w' rfl (hat.guards.1.fr h zr) cc (fun y _ ad _=>Al3 y ad));have cq:=lh (fun (w':World) (h:Fr Non w w')=>Aj5 w.heap.size x.refs.length x.refsC x.refsA x.refs fOk w' rfl (hat.refs.1.fr h zr) d3 (fun y _ ad _=>Ky y ad));have co:=lh (fun (w':World) (h:Fr Non w w')=>Aj8 w.heap.size x.past.length x.pastC x.pastA x.past Id.named w' rfl (hat.past.1.fr h zr) dw (fun y _ ad _=>Kz y ad));have cm:=lh (fun (w':World) (h:Fr Non w w')=>Ak3 w.heap.size x.path.length x.pathC x.pathA x.path (fun y=>Dc y.p&&y.xs.all Bx.may) w' rfl (hat.path.1.fr h zr) dg (fun y hy ad h'=>Al7 w.heap.size y ad ((hat.nodes y hy).fr (h.trans h' zr) zr) (cd y hy)));have cr:=lh (fun (w':World) (h:Fr Non w w')=>Tm w.heap.size x.boxes.length x.boxesC x.boxesA x.boxes Bx.may w' rfl (hat.boxes.1.fr h zr) ce (fun y _ ad _=>Tn y ad));have ct:=lh (fun (w':World) (h:Fr Non w w')=>Ak9 w.heap.size x.hist.length x.histC x.histA x.hist (fun y=>y.f.named) w' rfl (hat.hist.1.fr h zr) ds (fun y _ ad _=>Al4 y ad));have ac:Hid (x.rngB has=(inR x.by_ 1 12&&(inR x.sq 1 2147483647&&(inR x.at_ 0 2147483647&&(x.loopB has&&(x.guards.all (fun n=>inR n 1 12)&&(x.refs.all fOk&&(x.past.all Id.named&&(x.path.all (fun y=>Dc y.p&&y.xs.all Bx.may)&&(x.boxes.all Bx.may&&x.hist.all (fun y=>y.f.named))))))))))):=rfl;generalize x.rngB has=LB at*;generalize inR x.by_ 1 12=b1 at*;generalize inR x.sq 1 2147483647=b2 at*;generalize inR x.at_ 0 2147483647=b3 at*;generalize (x.guards.all (fun n=>inR n 1 12))=g1 at*;generalize (x.refs.all fOk)=g2 at*;generalize (x.past.all Id.named)=g3 at*;generalize (x.path.all (fun y=>Dc y.p&&y.xs.all Bx.may))=g4 at*;generalize (x.boxes.all Bx.may)=g5 at*;generalize (x.hist.all (fun y=>y.f.named))=g6 at*;generalize x.cells=CS at*;clear bb hat hok dw dg ds cc d3 cd ce
 cases b1
 ·
  have hv:Hid (false=LB):=by show _=_;rw [ac.out];rfl
  clear ac;go_enter func146,ntmps146;go_wp2_with (first
  |(go_at_call 176;(with_reducible refine (dq.out _).mono ?_);rintro _ v1 ⟨rfl,f1⟩;have dt:=f0.trans f1 zr;clear dq;obtain ⟨cu,bd,bk,bl,b4,bm,bi,b8⟩:=zk8 f1 c1 c2 c3 c4 c5 c6 c7 c8;obtain ⟨bt,ak,a6,aj,a8,ag,a5,af⟩:=zk8 f1 c9 dm cy d2 df ba cz dr;obtain ⟨a3,a7,a9,ax,au,a1,ar⟩:=zk7 f1 dp cb cv dh ab da aa)
  |(go_at_call 176;(with_reducible refine (dn.out _).mono ?_);rintro _ v2 ⟨rfl,f2⟩;have d4:=dt.trans f2 zr;clear dn;obtain ⟨bx,cn,b7,b0,b5,bc,bq,br⟩:=zk8 f2 bd bk bl b4 bm bi b8 bt;obtain ⟨al,aq,ae,ap,a2,a0,aw,a4⟩:=zk8 f2 ak a6 aj a8 ag a5 af a3;obtain ⟨ao,ay,ah,az,ai,av⟩:=zk6 f2 a7 a9 ax au a1 ar)
  |(go_at_call 176;(with_reducible refine (dv.out _).mono ?_);rintro _ v3 ⟨rfl,f3⟩;have ei:=d4.trans f3 zr;clear dv;obtain ⟨ci,ch,cj,cg,cl,ck,cf,bf⟩:=zk8 f3 bx b7 b0 b5 bc bq br al;obtain ⟨bh,bz,bo,b6,bn,bj,bu,be⟩:=zk8 f3 aq ae ap a2 a0 aw a4 ao;obtain ⟨bv,bs,bw,bp,bg⟩:=zk5 f3 ay ah az ai av))
  go_ret
  exact ⟨zeB hv.out,dt⟩
 cases b2
 ·
  have hv:Hid (false=LB):=by show _=_;rw [ac.out];rfl
  clear ac;go_enter func146,ntmps146;go_wp2_with (first
  |(go_at_call 176;(with_reducible refine (dq.out _).mono ?_);rintro _ v1 ⟨rfl,f1⟩;have dt:=f0.trans f1 zr;clear dq;obtain ⟨cu,bd,bk,bl,b4,bm,bi,b8⟩:=zk8 f1 c1 c2 c3 c4 c5 c6 c7 c8;obtain ⟨bt,ak,a6,aj,a8,ag,a5,af⟩:=zk8 f1 c9 dm cy d2 df ba cz dr;obtain ⟨a3,a7,a9,ax,au,a1,ar⟩:=zk7 f1 dp cb cv dh ab da aa)
  |(go_at_call 176;(with_reducible refine (dn.out _).mono ?_);rintro _ v2 ⟨rfl,f2⟩;have d4:=dt.trans f2 zr;clear dn;obtain ⟨bx,cn,b7,b0,b5,bc,bq,br⟩:=zk8 f2 bd bk bl b4 bm bi b8 bt;obtain ⟨al,aq,ae,ap,a2,a0,aw,a4⟩:=zk8 f2 ak a6 aj a8 ag a5 af a3;obtain ⟨ao,ay,ah,az,ai,av⟩:=zk6 f2 a7 a9 ax au a1 ar)
  |(go_at_call 176;(with_reducible refine (dv.out _).mono ?_);rintro _ v3 ⟨rfl,f3⟩;have ei:=d4.trans f3 zr;clear dv;obtain ⟨ci,ch,cj,cg,cl,ck,cf,bf⟩:=zk8 f3 bx b7 b0 b5 bc bq br al;obtain ⟨bh,bz,bo,b6,bn,bj,bu,be⟩:=zk8 f3 aq ae ap a2 a0 aw a4 ao;obtain ⟨bv,bs,bw,bp,bg⟩:=zk5 f3 ay ah az ai av))
  go_ret
  exact ⟨zeB hv.out,d4⟩
 cases b3
 ·
  have hv:Hid (false=LB):=by show _=_;rw [ac.out];rfl
  clear ac;go_enter func146,ntmps146;go_wp2_with (first
  |(go_at_call 176;(with_reducible refine (dq.out _).mono ?_);rintro _ v1 ⟨rfl,f1⟩;have dt:=f0.trans f1 zr;clear dq;obtain ⟨cu,bd,bk,bl,b4,bm,bi,b8⟩:=zk8 f1 c1 c2 c3 c4 c5 c6 c7 c8;obtain ⟨bt,ak,a6,aj,a8,ag,a5,af⟩:=zk8 f1 c9 dm cy d2 df ba cz dr;obtain ⟨a3,a7,a9,ax,au,a1,ar⟩:=zk7 f1 dp cb cv dh ab da aa)
  |(go_at_call 176;(with_reducible refine (dn.out _).mono ?_);rintro _ v2 ⟨rfl,f2⟩;have d4:=dt.trans f2 zr;clear dn;obtain ⟨bx,cn,b7,b0,b5,bc,bq,br⟩:=zk8 f2 bd bk bl b4 bm bi b8 bt;obtain ⟨al,aq,ae,ap,a2,a0,aw,a4⟩:=zk8 f2 ak a6 aj a8 ag a5 af a3;obtain ⟨ao,ay,ah,az,ai,av⟩:=zk6 f2 a7 a9 ax au a1 ar)
  |(go_at_call 176;(with_reducible refine (dv.out _).mono ?_);rintro _ v3 ⟨rfl,f3⟩;have ei:=d4.trans f3 zr;clear dv;obtain ⟨ci,ch,cj,cg,cl,ck,cf,bf⟩:=zk8 f3 bx b7 b0 b5 bc bq br al;obtain ⟨bh,bz,bo,b6,bn,bj,bu,be⟩:=zk8 f3 aq ae ap a2 a0 aw a4 ao;obtain ⟨bv,bs,bw,bp,bg⟩:=zk5 f3 ay ah az ai av))
  go_ret
  exact ⟨zeB hv.out,ei⟩
 replace ac:Hid (LB=(x.loopB has&&(g1&&(g2&&(g3&&(g4&&(g5&&g6))))))):=ac;go_enter func146,ntmps146
 go_wp2_with (first
  |(go_at_call 176;(with_reducible refine (dq.out _).mono ?_);rintro _ v1 ⟨rfl,f1⟩;have dt:=f0.trans f1 zr;clear dq;obtain ⟨cu,bd,bk,bl,b4,bm,bi,b8⟩:=zk8 f1 c1 c2 c3 c4 c5 c6 c7 c8;obtain ⟨bt,ak,a6,aj,a8,ag,a5,af⟩:=zk8 f1 c9 dm cy d2 df ba cz dr;obtain ⟨a3,a7,a9,ax,au,a1,ar⟩:=zk7 f1 dp cb cv dh ab da aa)
  |(go_at_call 176;(with_reducible refine (dn.out _).mono ?_);rintro _ v2 ⟨rfl,f2⟩;have d4:=dt.trans f2 zr;clear dn;obtain ⟨bx,cn,b7,b0,b5,bc,bq,br⟩:=zk8 f2 bd bk bl b4 bm bi b8 bt;obtain ⟨al,aq,ae,ap,a2,a0,aw,a4⟩:=zk8 f2 ak a6 aj a8 ag a5 af a3;obtain ⟨ao,ay,ah,az,ai,av⟩:=zk6 f2 a7 a9 ax au a1 ar)
  |(go_at_call 176;(with_reducible refine (dv.out _).mono ?_);rintro _ v3 ⟨rfl,f3⟩;have ei:=d4.trans f3 zr;clear dv;obtain ⟨ci,ch,cj,cg,cl,ck,cf,bf⟩:=zk8 f3 bx b7 b0 b5 bc bq br al;obtain ⟨bh,bz,bo,b6,bn,bj,bu,be⟩:=zk8 f3 aq ae ap a2 a0 aw a4 ao;obtain ⟨bv,bs,bw,bp,bg⟩:=zk5 f3 ay ah az ai av))
 go_quiet (fail)
 have fe:Fr Non w (v3.drewN nq):=ei.drewN nq;have el:cI (v3.drewN nq) w.heap.size 2 x.kind:=ci;have eb:cS (v3.drewN nq) w.heap.size 4 x.pastA x.past.length x.pastC:=ch;have d9:cI (v3.drewN nq) w.heap.size 5 x.dev:=cj;have ea:cI (v3.drewN nq) w.heap.size 6 x.old:=cg;have ef:cI (v3.drewN nq) w.heap.size 7 x.mem:=cl;have ep:cI (v3.drewN nq) w.heap.size 8 x.role:=ck;have en:cS (v3.drewN nq) w.heap.size 9 x.pathA x.path.length x.pathC:=cf;have dc:cI (v3.drewN nq) w.heap.size 10 x.epoch.b:=bf;have di:cI (v3.drewN nq) w.heap.size 11 x.epoch.s:=bh;have dj:cU (v3.drewN nq) w.heap.size 12 x.epoch.u:=bz;have dd:cI (v3.drewN nq) w.heap.size 13 x.n:=bo;have dy:cS (v3.drewN nq) w.heap.size 15 x.refsA x.refs.length x.refsC:=b6;have cx:cI (v3.drewN nq) w.heap.size 16 x.of.b:=bn;have de:cI (v3.drewN nq) w.heap.size 17 x.of.s:=bj;have dk:cU (v3.drewN nq) w.heap.size 18 x.of.u:=bu;have dz:cS (v3.drewN nq) w.heap.size 19 x.guardsA x.guards.length x.guardsC:=be;have dx:cI (v3.drewN nq) w.heap.size 20 x.need:=bv;have dl:cI (v3.drewN nq) w.heap.size 21 x.wait:=bs;have d1:cS (v3.drewN nq) w.heap.size 22 x.boxesA x.boxes.length x.boxesC:=bw;have db:cU (v3.drewN nq) w.heap.size 23 x.pub:=bp;have du:cS (v3.drewN nq) w.heap.size 24 x.histA x.hist.length x.histC:=bg;generalize v3.drewN nq=v4 at*;clear ci ch cj cg cl ck cf bf bh bz bo b6 bn bj bu be bv bs bw bp bg bx cn b7 b0 b5 bc bq br al aq ae ap a2 a0 aw a4 ao ay ah az ai av cu bd bk bl b4 bm bi b8 bt ak a6 aj a8 ag a5 af a3 a7 a9 ax au a1 ar c0 c1 c2 c3 c4 c5 c6 c7 c8 c9 dm cy d2 df ba cz dr dp cb cv dh ab da aa
 go_upto_if 38 with (go_at_call 176;(with_reducible refine (km.out _).mono ?_);rintro _ v5 ⟨rfl,f5⟩;have ec:=fe.trans f5 zr;clear km;obtain ⟨c2,c4,c5,c6,c7,c8,c9,dm⟩:=zk8 f5 el eb d9 ea ef ep en dc;obtain ⟨cy,d2,df,ba,cz,dr,dp,cb⟩:=zk8 f5 di dj dd dy cx de dk dz;obtain ⟨cv,dh,ab,da,aa⟩:=zk5 f5 dx dl d1 db du)
 clear el eb d9 ea ef ep en dc di dj dd dy cx de dk dz dx dl d1 db du fe f5;generalize hv5:v5=W at*
 go_cut [5,8] from 14 (fun a b wc=>W=wc/\a=.int .i64 x.ls/\b=.bool x.mb)
 case first=>
  by_cases k3:x.kind=3
  ·
   have h1:Hid (x.ls=0):=if_pos k3;have fl:Hid (x.mb=((inR x.mem 1 8&&x.dev==0)||(x.mem==0&&x.dev !=0))):=if_pos k3;have e6:=E3 k3;clear k3;generalize inR x.mem 1 8=m1 at*
   rcases zb (x.dev==0) with d0|d0<;>rcases zb (x.mem==0) with e0|e0<;>cases m1
   all_goals
    have fk:(x.dev !=0)=!(x.dev==0):=rfl;rw [d0] at fk;have h2:=fl.out;rw [d0,e0,fk] at h2;replace h2:=lh h2;clear fl;go_wp2_with fail;go_meet;exact ⟨rfl,congrArg (Value.int .i64) h1.out.symm,hB h2.symm⟩
  ·
   have h1:Hid (x.ls=1):=if_neg k3;have h2:Hid (x.mb=inR x.mem 1 8):=if_neg k3;have e6:=Dk k3;clear k3;go_wp2_with fail;go_meet;exact ⟨rfl,congrArg (Value.int .i64) h1.out.symm,hB h2.symm⟩
 case rest=>
 obtain ⟨rfl,rfl,rfl⟩:=hcut
 go_upto_if 57 with (fail)
 go_cut [6,7] from 14 (fun a b wc=>W=wc/\a=.int .i64 x.nd/\b=.int .i64 x.mo)
 case first=>
  by_cases k3:x.kind=1
  ·
   have h1:Hid (x.nd=0):=if_pos k3;have h2:Hid (x.mo=20):=if_pos k3;have e6:=E3 k3;clear k3;go_wp2_with fail;go_meet;exact ⟨rfl,congrArg (Value.int .i64) h1.out.symm,congrArg (Value.int .i64) h2.out.symm⟩
  ·
   have h1:Hid (x.nd=1):=if_neg k3;have h2:Hid (x.mo=(x.guards.length:Int)):=if_neg k3;have e6:=Dk k3;clear k3;go_wp2_with fail;go_meet;exact ⟨rfl,congrArg (Value.int .i64) h1.out.symm,congrArg (Value.int .i64) h2.out.symm⟩
 case rest=>
 obtain ⟨rfl,rfl,rfl⟩:=hcut;go_upto_region 10 with (fail)
 have hS:(fun w'=>cI w' w.heap.size 5 x.dev/\cI w' w.heap.size 6 x.old/\cI w' w.heap.size 8 x.role/\cI w' w.heap.size 10 x.epoch.b/\cI w' w.heap.size 11 x.epoch.s/\cU w' w.heap.size 12 x.epoch.u/\cI w' w.heap.size 13 x.n/\cI w' w.heap.size 16 x.of.b/\cI w' w.heap.size 17 x.of.s/\cU w' w.heap.size 18 x.of.u/\cI w' w.heap.size 20 x.need/\cI w' w.heap.size 21 x.wait/\cU w' w.heap.size 23 x.pub) W.drew:=by
  and_intros
  · exact c5
  · exact c6
  · exact c8
  · exact dm
  · exact cy
  · exact d2
  · exact df
  · exact cz
  · exact dr
  · exact dp
  · exact cv
  · exact dh
  · exact da
 refine wp_region_held_drew (S:=fun w'=>cI w' w.heap.size 5 x.dev/\cI w' w.heap.size 6 x.old/\cI w' w.heap.size 8 x.role/\cI w' w.heap.size 10 x.epoch.b/\cI w' w.heap.size 11 x.epoch.s/\cU w' w.heap.size 12 x.epoch.u/\cI w' w.heap.size 13 x.n/\cI w' w.heap.size 16 x.of.b/\cI w' w.heap.size 17 x.of.s/\cU w' w.heap.size 18 x.of.u/\cI w' w.heap.size 20 x.need/\cI w' w.heap.size 21 x.wait/\cU w' w.heap.size 23 x.pub) (by kernel_rfl) hS (fun hHeld=> ?_);clear hHeld;try simp only [List.append_eq,List.cons_append,List.nil_append]
 replace c4:cS W.drew w.heap.size 4 x.pastA x.past.length x.pastC:=c4;replace c9:cS W.drew w.heap.size 9 x.pathA x.path.length x.pathC:=c9;replace ba:cS W.drew w.heap.size 15 x.refsA x.refs.length x.refsC:=ba;replace cb:cS W.drew w.heap.size 19 x.guardsA x.guards.length x.guardsC:=cb;replace ab:cS W.drew w.heap.size 22 x.boxesA x.boxes.length x.boxesC:=ab;replace aa:cS W.drew w.heap.size 24 x.histA x.hist.length x.histC:=aa;replace ec:=ec.drew;clear c2 c7 c5 c6 c8 dm cy d2 df cz dr dp cv dh da;generalize W.drew=w0 at*;refine tkN 1 3 hS (h:=tkN 6 2 hS (h:=tkN 10 1 hS (h:=tkN 12 2 hS (h:=tkN 16 2 hS (h:=tkN 20 2 hS (h:=?_))))));refine tkN 24 4 hS (h:=tkN 30 2 hS (h:=tkN 34 2 hS (h:=tkN 38 2 hS (h:=?_))));refine Te (H:=Nat) 0 58 236 3 4 [4,8,14,18,22,28,32,36,40] mayIns (To x) (mayCv x) _ _ ((Array.replicate 44 true).setIfInBounds 42 false|>.setIfInBounds 43 false) w0 2 (by decide) (by kernel_rfl) (by kernel_rfl) (by kernel_rfl) underlying236 underlying3 underlying4 ?_ ?_ ?_ (by decide) ?_
 ·
  clear ac cs cq co cm cr ct;refine List.forall_mem_cons.2 ⟨⟨62,_,_,_,_,#[.tmp 60,.tmp 61,.const (.int .i64 12)],rfl,by kernel_rfl,by kernel_rfl,fun a w' K ha hf hk=>Gf rfl func176 (by kernel_rfl) rfl (vals:=#[.int .i64 x.dev,.int .i64 x.ls,.int .i64 12]) (ha.trans (by kernel_rfl)) ((Eb x.dev x.ls 12 w').mono ?_)⟩,?_⟩
  ·
   rintro _ ad ⟨rfl,f⟩;exact ⟨_,rfl,hk ad f⟩
  refine List.forall_mem_cons.2 ⟨⟨65,_,_,_,_,#[.tmp 64,.const (.int .i64 1),.const (.int .i64 12)],rfl,by kernel_rfl,by kernel_rfl,fun a w' K ha hf hk=>Gf rfl func176 (by kernel_rfl) rfl (vals:=#[.int .i64 x.old,.int .i64 1,.int .i64 12]) (ha.trans (by kernel_rfl)) ((Eb x.old 1 12 w').mono ?_)⟩,?_⟩
  ·
   rintro _ ad ⟨rfl,f⟩;exact ⟨_,rfl,hk ad f⟩
  refine List.forall_mem_cons.2 ⟨⟨69,_,_,_,_,#[.tmp 68,.const (.int .i64 1),.const (.int .i64 3)],rfl,by kernel_rfl,by kernel_rfl,fun a w' K ha hf hk=>Gf rfl func176 (by kernel_rfl) rfl (vals:=#[.int .i64 x.role,.int .i64 1,.int .i64 3]) (ha.trans (by kernel_rfl)) ((Eb x.role 1 3 w').mono ?_)⟩,?_⟩
  ·
   rintro _ ad ⟨rfl,f⟩;exact ⟨_,rfl,hk ad f⟩
  refine List.forall_mem_cons.2 ⟨⟨72,_,_,_,_,#[.tmp 71,.const (.int .i64 0),.const (.int .i64 2147483647)],rfl,by kernel_rfl,by kernel_rfl,fun a w' K ha hf hk=>Gf rfl func176 (by kernel_rfl) rfl (vals:=#[.int .i64 x.n,.int .i64 0,.int .i64 2147483647]) (ha.trans (by kernel_rfl)) ((Eb x.n 0 2147483647 w').mono ?_)⟩,?_⟩
  ·
   rintro _ ad ⟨rfl,f⟩;exact ⟨_,rfl,hk ad f⟩
  refine List.forall_mem_cons.2 ⟨⟨75,_,_,_,_,#[.tmp 74,.const (.int .i64 0),.const (.int .i64 2147483647)],rfl,by kernel_rfl,by kernel_rfl,fun a w' K ha hf hk=>Gf rfl func176 (by kernel_rfl) rfl (vals:=#[.int .i64 x.wait,.int .i64 0,.int .i64 2147483647]) (ha.trans (by kernel_rfl)) ((Eb x.wait 0 2147483647 w').mono ?_)⟩,?_⟩
  ·
   rintro _ ad ⟨rfl,f⟩;exact ⟨_,rfl,hk ad f⟩
  refine List.forall_mem_cons.2 ⟨⟨80,_,_,_,_,#[.tmp 77,.tmp 78,.tmp 79],rfl,by kernel_rfl,by kernel_rfl,fun a w' K ha hf hk=>Gf rfl func176 (by kernel_rfl) rfl (vals:=#[.int .i64 x.need,.int .i64 x.nd,.int .i64 x.mo]) (ha.trans (by kernel_rfl)) ((Eb x.need x.nd x.mo w').mono ?_)⟩,?_⟩
  ·
   rintro _ ad ⟨rfl,f⟩;exact ⟨_,rfl,hk ad f⟩
  refine List.forall_mem_cons.2 ⟨⟨83,_,_,_,_,#[.tmp 82],rfl,by kernel_rfl,by kernel_rfl,fun a w' K ha hf hk=>Gf rfl func177 (by kernel_rfl) rfl (vals:=#[.agg x.epoch.V]) (ha.trans (by kernel_rfl)) ((Kz x.epoch w').mono ?_)⟩,?_⟩
  ·
   rintro _ ad ⟨rfl,f⟩;exact ⟨_,rfl,hk ad f⟩
  refine List.forall_mem_cons.2 ⟨⟨86,_,_,_,_,#[.tmp 85],rfl,by kernel_rfl,by kernel_rfl,fun a w' K ha hf hk=>Gf rfl func177 (by kernel_rfl) rfl (vals:=#[.agg x.of.V]) (ha.trans (by kernel_rfl)) ((Kz x.of w').mono ?_)⟩,?_⟩
  ·
   rintro _ ad ⟨rfl,f⟩;exact ⟨_,rfl,hk ad f⟩
  refine List.forall_mem_cons.2 ⟨⟨89,_,_,_,_,#[.tmp 88],rfl,by kernel_rfl,by kernel_rfl,fun a w' K ha hf hk=>Gf rfl func178 (by kernel_rfl) rfl (vals:=#[.int .u64 (x.pub:Int)]) (ha.trans (by kernel_rfl)) ((Kw x.pub w').mono ?_)⟩,?_⟩
  ·
   rintro _ ad ⟨rfl,f⟩;exact ⟨_,rfl,hk ad f⟩
  exact fun y hy=>absurd hy (by simp)
 ·
  clear ac cs cq co cm cr ct;unfold mayIns;refine List.forall_mem_cons.2 ⟨Or.inr ⟨4,by kernel_rfl,rfl⟩,?_⟩;refine List.forall_mem_cons.2 ⟨Or.inr ⟨8,by kernel_rfl,rfl⟩,?_⟩;refine List.forall_mem_cons.2 ⟨Or.inl ⟨by kernel_rfl,rfl⟩,?_⟩;refine List.forall_mem_cons.2 ⟨Or.inr ⟨14,by kernel_rfl,rfl⟩,?_⟩;refine List.forall_mem_cons.2 ⟨Or.inr ⟨18,by kernel_rfl,rfl⟩,?_⟩;refine List.forall_mem_cons.2 ⟨Or.inr ⟨22,by kernel_rfl,rfl⟩,?_⟩;refine List.forall_mem_cons.2 ⟨Or.inr ⟨28,by kernel_rfl,rfl⟩,?_⟩;refine List.forall_mem_cons.2 ⟨Or.inr ⟨32,by kernel_rfl,rfl⟩,?_⟩;refine List.forall_mem_cons.2 ⟨Or.inr ⟨36,by kernel_rfl,rfl⟩,?_⟩;refine List.forall_mem_cons.2 ⟨Or.inr ⟨40,by kernel_rfl,rfl⟩,?_⟩;exact fun y hy=>absurd hy (by simp)
 ·
  intro w' hf;obtain ⟨q5,q6,q8,d8,eh,eo,ed,em,eg,ej,ee,ek,es⟩:=hS
  and_intros<;>first|exact hf.cell q5 zq|exact hf.cell q6 zq|exact hf.cell q8 zq|exact hf.cell d8 zq|exact hf.cell eh zq|exact hf.cell eo zq|exact hf.cell ed zq|exact hf.cell em zq|exact hf.cell eg zq|exact hf.cell ej zq|exact hf.cell ee zq|exact hf.cell ek zq|exact hf.cell es zq
 intro b w1 D n hF hb et hn ca;rw [Tf ([none,none,none,none,none,none,none,none,none,none,none,none,none,none,none,none,none,none,none,none,none,none,none,none,none,none,none,none,none,none,none,none,none,none,none,none,none,none,none,none,none,none,none,none,none,none,none,none,none,none,none,none,none,none,none,none,none,none,some 0,none,none,none,some 4,none,none,some 8,none,none,none,some 14,none,none,some 18,none,none,some 22,none,none,none,none,some 28,none,none,some 32,none,none,some 36,none,none,some 40,none,none,none,none,none,none,none,none,none,none,none,none,none,none,none,none,none,none,none,none,none,none,none,none,none,none,none,none,none,none,none,none,none,none,none,none,none,none,none,none,none,none,none,none,none,none]) (by kernel_rfl) (by decide)];dsimp only [List.zipWith_cons_cons,List.zipWith_nil_left];simp only [if_true]
 have ew:(fun w'=>cI w' w.heap.size 5 x.dev/\cI w' w.heap.size 6 x.old/\cI w' w.heap.size 8 x.role/\cI w' w.heap.size 10 x.epoch.b/\cI w' w.heap.size 11 x.epoch.s/\cU w' w.heap.size 12 x.epoch.u/\cI w' w.heap.size 13 x.n/\cI w' w.heap.size 16 x.of.b/\cI w' w.heap.size 17 x.of.s/\cU w' w.heap.size 18 x.of.u/\cI w' w.heap.size 20 x.need/\cI w' w.heap.size 21 x.wait/\cU w' w.heap.size 23 x.pub) w1:=by
  obtain ⟨q5,q6,q8,d8,eh,eo,ed,em,eg,ej,ee,ek,es⟩:=hS
  and_intros<;>first|exact hF.cell q5 zq|exact hF.cell q6 zq|exact hF.cell q8 zq|exact hF.cell d8 zq|exact hF.cell eh zq|exact hF.cell eo zq|exact hF.cell ed zq|exact hF.cell em zq|exact hF.cell eg zq|exact hF.cell ej zq|exact hF.cell ee zq|exact hF.cell ek zq|exact hF.cell es zq
 refine tkN 42 1 ew (h:=?_);refine Qn 43 (by kernel_rfl) rfl (fun K hK=> ?_);refine Tg rfl rfl et (int_keyed underlying3) underlying236 ?_;intro w2 d7 fv fx;have b9:=Fr.ofGrown fv (fun k hk=>by cases hk);have cw:=hF.trans b9 zr;have fc:=ec.trans cw zr;refine hK.out _ _ ?_ (fun _=> ?_)
 ·
  obtain ⟨q5,q6,q8,d8,eh,eo,ed,em,eg,ej,ee,ek,es⟩:=ew
  and_intros<;>first|exact b9.cell q5 zq|exact b9.cell q6 zq|exact b9.cell q8 zq|exact b9.cell d8 zq|exact b9.cell eh zq|exact b9.cell eo zq|exact b9.cell ed zq|exact b9.cell em zq|exact b9.cell eg zq|exact b9.cell ej zq|exact b9.cell ee zq|exact b9.cell ek zq|exact b9.cell es zq
 clear hK K;rw [Ah];simp only [zl];refine oD ?_;have ft:w.heap.size<w1.heap.size:=Nat.lt_of_lt_of_le (World.block_lt_of_cell? _ _ cb) hF.size;replace c4:=cw.cell c4 zq;replace c9:=cw.cell c9 zq;replace ba:=cw.cell ba zq;replace cb:=cw.cell cb zq;replace ab:=cw.cell ab zq;replace aa:=cw.cell aa zq;have e8:=(ec.trans hF zr).size;clear ew hS cw b9 hF ec;go_simp;go_wp2_with fail
 go_loopw [] (fun wr=>∃(cp:Lit->Bool) (e9:Nat),wr.ranges zp 3 (plainElem zp 4) b w1.heap.size n D cp e9/\Hid (RA x has cp)/\Fr Non w wr/\Fr (fun k=>w1.heap.size<=k) w2 wr) (fun wr=>wr.rangeLeft b w1.heap.size)
 case atStart=>exact ⟨_,_,d7,RA.start (fun j hj=>by rw [(ca.2 _).1,Option.isSome_map]),fc,Fr.refl _ _⟩
 case round=>
  obtain ⟨cp,e9,d7,ev,hF,d5⟩:=hrel;clear fc
  go_wp2_with (first
   |(at_next;refine Th _ rfl _ rfl 3 4 underlying3 underlying4 b w1.heap.size n D cp e9 rfl d7 ?_ ?_)
   |go_in)
  ·
   intro fs fi;have hd:=RA.done ev fi;replace ac:Hid (LB=(g1&&(g2&&(g3&&(g4&&(g5&&g6)))))):=by show _=_;rw [ac.out,hd];rfl
   subst fs;clear d7 hd fi ev ca;replace c4:=d5.cell c4 (by show ¬w1.heap.size<=w.heap.size;omega);replace c9:=d5.cell c9 (by show ¬w1.heap.size<=w.heap.size;omega);replace ba:=d5.cell ba (by show ¬w1.heap.size<=w.heap.size;omega);replace cb:=d5.cell cb (by show ¬w1.heap.size<=w.heap.size;omega);replace ab:=d5.cell ab (by show ¬w1.heap.size<=w.heap.size;omega);replace aa:=d5.cell aa (by show ¬w1.heap.size<=w.heap.size;omega)
   cases g1
   ·
    have hv:Hid (false=LB):=ac.out.symm;clear ac;go_wp2_with (first|(go_at_call 184;(with_reducible refine (cs.out _ hF).mono ?_);rintro _ v0 ⟨rfl,e0⟩;have hF:=hF.trans e0 zr;obtain ⟨ba,c4,c9,ab,aa⟩:=zk5 e0 ba c4 c9 ab aa)|(go_at_call 185;(with_reducible refine (cq.out _ hF).mono ?_);rintro _ v1 ⟨rfl,e1⟩;have hF:=hF.trans e1 zr;obtain ⟨c4,c9,ab,aa⟩:=zk4 e1 c4 c9 ab aa)|(go_at_call 187;(with_reducible refine (co.out _ hF).mono ?_);rintro _ v2 ⟨rfl,e2⟩;have hF:=hF.trans e2 zr;obtain ⟨c9,ab,aa⟩:=zk3 e2 c9 ab aa)|(go_at_call 188;(with_reducible refine (cm.out _ hF).mono ?_);rintro _ v3 ⟨rfl,e3⟩;have hF:=hF.trans e3 zr;obtain ⟨ab,aa⟩:=zk2 e3 ab aa)|(go_at_call 180;(with_reducible refine (cr.out _ hF).mono ?_);rintro _ v4 ⟨rfl,e4⟩;have hF:=hF.trans e4 zr;have aa:=e4.cell aa zq)|(go_at_call 189;(with_reducible refine (ct.out _ hF).mono ?_);rintro _ v5 ⟨rfl,e5⟩;have hF:=hF.trans e5 zr))
    go_ret
    exact ⟨zeB hv.out,hF⟩
   cases g2
   ·
    have hv:Hid (false=LB):=ac.out.symm;clear ac;go_wp2_with (first|(go_at_call 184;(with_reducible refine (cs.out _ hF).mono ?_);rintro _ v0 ⟨rfl,e0⟩;have hF:=hF.trans e0 zr;obtain ⟨ba,c4,c9,ab,aa⟩:=zk5 e0 ba c4 c9 ab aa)|(go_at_call 185;(with_reducible refine (cq.out _ hF).mono ?_);rintro _ v1 ⟨rfl,e1⟩;have hF:=hF.trans e1 zr;obtain ⟨c4,c9,ab,aa⟩:=zk4 e1 c4 c9 ab aa)|(go_at_call 187;(with_reducible refine (co.out _ hF).mono ?_);rintro _ v2 ⟨rfl,e2⟩;have hF:=hF.trans e2 zr;obtain ⟨c9,ab,aa⟩:=zk3 e2 c9 ab aa)|(go_at_call 188;(with_reducible refine (cm.out _ hF).mono ?_);rintro _ v3 ⟨rfl,e3⟩;have hF:=hF.trans e3 zr;obtain ⟨ab,aa⟩:=zk2 e3 ab aa)|(go_at_call 180;(with_reducible refine (cr.out _ hF).mono ?_);rintro _ v4 ⟨rfl,e4⟩;have hF:=hF.trans e4 zr;have aa:=e4.cell aa zq)|(go_at_call 189;(with_reducible refine (ct.out _ hF).mono ?_);rintro _ v5 ⟨rfl,e5⟩;have hF:=hF.trans e5 zr))
    go_ret
    exact ⟨zeB hv.out,hF⟩
   cases g3
   ·
    have hv:Hid (false=LB):=ac.out.symm;clear ac;go_wp2_with (first|(go_at_call 184;(with_reducible refine (cs.out _ hF).mono ?_);rintro _ v0 ⟨rfl,e0⟩;have hF:=hF.trans e0 zr;obtain ⟨ba,c4,c9,ab,aa⟩:=zk5 e0 ba c4 c9 ab aa)|(go_at_call 185;(with_reducible refine (cq.out _ hF).mono ?_);rintro _ v1 ⟨rfl,e1⟩;have hF:=hF.trans e1 zr;obtain ⟨c4,c9,ab,aa⟩:=zk4 e1 c4 c9 ab aa)|(go_at_call 187;(with_reducible refine (co.out _ hF).mono ?_);rintro _ v2 ⟨rfl,e2⟩;have hF:=hF.trans e2 zr;obtain ⟨c9,ab,aa⟩:=zk3 e2 c9 ab aa)|(go_at_call 188;(with_reducible refine (cm.out _ hF).mono ?_);rintro _ v3 ⟨rfl,e3⟩;have hF:=hF.trans e3 zr;obtain ⟨ab,aa⟩:=zk2 e3 ab aa)|(go_at_call 180;(with_reducible refine (cr.out _ hF).mono ?_);rintro _ v4 ⟨rfl,e4⟩;have hF:=hF.trans e4 zr;have aa:=e4.cell aa zq)|(go_at_call 189;(with_reducible refine (ct.out _ hF).mono ?_);rintro _ v5 ⟨rfl,e5⟩;have hF:=hF.trans e5 zr))
    go_ret
    exact ⟨zeB hv.out,hF⟩
   cases g4
   ·
    have hv:Hid (false=LB):=ac.out.symm;clear ac;go_wp2_with (first|(go_at_call 184;(with_reducible refine (cs.out _ hF).mono ?_);rintro _ v0 ⟨rfl,e0⟩;have hF:=hF.trans e0 zr;obtain ⟨ba,c4,c9,ab,aa⟩:=zk5 e0 ba c4 c9 ab aa)|(go_at_call 185;(with_reducible refine (cq.out _ hF).mono ?_);rintro _ v1 ⟨rfl,e1⟩;have hF:=hF.trans e1 zr;obtain ⟨c4,c9,ab,aa⟩:=zk4 e1 c4 c9 ab aa)|(go_at_call 187;(with_reducible refine (co.out _ hF).mono ?_);rintro _ v2 ⟨rfl,e2⟩;have hF:=hF.trans e2 zr;obtain ⟨c9,ab,aa⟩:=zk3 e2 c9 ab aa)|(go_at_call 188;(with_reducible refine (cm.out _ hF).mono ?_);rintro _ v3 ⟨rfl,e3⟩;have hF:=hF.trans e3 zr;obtain ⟨ab,aa⟩:=zk2 e3 ab aa)|(go_at_call 180;(with_reducible refine (cr.out _ hF).mono ?_);rintro _ v4 ⟨rfl,e4⟩;have hF:=hF.trans e4 zr;have aa:=e4.cell aa zq)|(go_at_call 189;(with_reducible refine (ct.out _ hF).mono ?_);rintro _ v5 ⟨rfl,e5⟩;have hF:=hF.trans e5 zr))
    go_ret
    exact ⟨zeB hv.out,hF⟩
   cases g5
   ·
    have hv:Hid (false=LB):=ac.out.symm;clear ac;go_wp2_with (first|(go_at_call 184;(with_reducible refine (cs.out _ hF).mono ?_);rintro _ v0 ⟨rfl,e0⟩;have hF:=hF.trans e0 zr;obtain ⟨ba,c4,c9,ab,aa⟩:=zk5 e0 ba c4 c9 ab aa)|(go_at_call 185;(with_reducible refine (cq.out _ hF).mono ?_);rintro _ v1 ⟨rfl,e1⟩;have hF:=hF.trans e1 zr;obtain ⟨c4,c9,ab,aa⟩:=zk4 e1 c4 c9 ab aa)|(go_at_call 187;(with_reducible refine (co.out _ hF).mono ?_);rintro _ v2 ⟨rfl,e2⟩;have hF:=hF.trans e2 zr;obtain ⟨c9,ab,aa⟩:=zk3 e2 c9 ab aa)|(go_at_call 188;(with_reducible refine (cm.out _ hF).mono ?_);rintro _ v3 ⟨rfl,e3⟩;have hF:=hF.trans e3 zr;obtain ⟨ab,aa⟩:=zk2 e3 ab aa)|(go_at_call 180;(with_reducible refine (cr.out _ hF).mono ?_);rintro _ v4 ⟨rfl,e4⟩;have hF:=hF.trans e4 zr;have aa:=e4.cell aa zq)|(go_at_call 189;(with_reducible refine (ct.out _ hF).mono ?_);rintro _ v5 ⟨rfl,e5⟩;have hF:=hF.trans e5 zr))
    go_ret
    exact ⟨zeB hv.out,hF⟩
   have hv:Hid (g6=LB):=ac.out.symm;clear ac;go_wp2_with (first|(go_at_call 184;(with_reducible refine (cs.out _ hF).mono ?_);rintro _ v0 ⟨rfl,e0⟩;have hF:=hF.trans e0 zr;obtain ⟨ba,c4,c9,ab,aa⟩:=zk5 e0 ba c4 c9 ab aa)|(go_at_call 185;(with_reducible refine (cq.out _ hF).mono ?_);rintro _ v1 ⟨rfl,e1⟩;have hF:=hF.trans e1 zr;obtain ⟨c4,c9,ab,aa⟩:=zk4 e1 c4 c9 ab aa)|(go_at_call 187;(with_reducible refine (co.out _ hF).mono ?_);rintro _ v2 ⟨rfl,e2⟩;have hF:=hF.trans e2 zr;obtain ⟨c9,ab,aa⟩:=zk3 e2 c9 ab aa)|(go_at_call 188;(with_reducible refine (cm.out _ hF).mono ?_);rintro _ v3 ⟨rfl,e3⟩;have hF:=hF.trans e3 zr;obtain ⟨ab,aa⟩:=zk2 e3 ab aa)|(go_at_call 180;(with_reducible refine (cr.out _ hF).mono ?_);rintro _ v4 ⟨rfl,e4⟩;have hF:=hF.trans e4 zr;have aa:=e4.cell aa zq)|(go_at_call 189;(with_reducible refine (ct.out _ hF).mono ?_);rintro _ v5 ⟨rfl,e5⟩;have hF:=hF.trans e5 zr))
   go_ret
   exact ⟨zeB hv.out,hF⟩
  ·
   intro k v w3 ez hv fp d6 fa eu fo fu;clear cs cq co cm cr ct c4 c9 ba cb ab aa;obtain ⟨c,rfl,fj⟩:=ca.entry hv;obtain ⟨y,ey,fg⟩:=Option.map_eq_some_iff.1 fj;have fn:=List.find?_some ey;obtain ⟨j,hj,hk,fh⟩:=Al8 x y (List.mem_of_find?_eq_some ey);obtain rfl:y.2.1=k:=by simpa using fn
   rw [hk] at fp d6 fu ⊢;have hc:x.mayB j=c:=by rw [<- fh,fg]
   have fd:Fr (fun k=>some w1.heap.size=some k) wr w3:=Fr.grown (Fr.refl _ _) eu (fun k hk _=>hk);have fm:Fr Non w w3:=hF.trans fd (fun i hi e=>by cases e;have:=e8;omega);have e7:Fr (fun k=>w1.heap.size<=k) w2 w3:=d5.trans fd (fun i hi e=>by cases e;exact Nat.le_refl _);have fq:w3.rangeLeft b w1.heap.size<wr.rangeLeft b w1.heap.size:=by rw [d6.left_eq,d7.left_eq];exact fa
   have ff:=Ai6 has j hhas hj;have fw:(bits .and .i64 (has:Int) ((2^j:Nat):Int) !=0)=has.testBit j:=by rw [bne,<- Bool.not_not (has.testBit j),<- ff];rfl
   have er:=lh (RA.step (x:=x) (has:=has) (j:=j) ev hj);have fb:=lh (fun h1 h2=>Am0 (x:=x) (has:=has) hj h1 h2);generalize hpj:((2^j:Nat):Int)=pj at*;clear hv fj ey fg fn hk fh d7 ff ca;generalize htb:has.testBit j=tb at*;generalize x.mayB j=mj at*;subst hc
   cases tb<;>cases mj
   case true.false=>
    have hv:Hid (false=LB):=by show _=_;rw [ac.out,fb.out rfl rfl];rfl
    clear ac fb er;go_wp2_with fail
    go_ret
    exact ⟨zeB hv.out,fm⟩
   all_goals
    clear fb ac;go_wp2_with fail;exact ⟨⟨_,ez,d6,er.out (by decide),fm,e7⟩,fq⟩
end Oq
end
section
open Go.RowKit
namespace Oq
attribute [local go_sem] Bool.not_false Bool.not_true
