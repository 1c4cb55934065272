/-
  Contracts of the functions that the claim's statement reaches, walked one by one (part 8).
  Conditions: as each theorem says.
-/
import Derived.Deep.CutBlock
import Derived.Deep.Cut
import Derived.Test.YtkanjaikgphjfaaGreatDoorFkM2
import Derived.Test.YtkanjaikgphjfaaGreatDoorFkM3
import Derived.Test.YtkanjaikgphjfaaGreatDoorFkM7
set_option maxRecDepth 100000
set_option maxHeartbeats 16000000
namespace Go.Proofs.YtkanjaikgphjfaaGreatDoor
section
open Go.RowKit Go.Maps
attribute [local go_sem ↓] Go.wp_at_zero Go.wp_at_succ
namespace Oq
attribute [local go_sem] Bool.not_false Bool.not_true
def OpL.ls (x:OpL):Int:=if x.kind=3 then 0 else 1
def OpL.nd (x:OpL):Int:=if x.kind=1 then 0 else 1
def OpL.mo (x:OpL):Int:=if x.kind=1 then 20 else (x.guards.length:Int)
def OpL.mb (x:OpL):Bool:=if x.kind=3 then ((inR x.mem 1 8&&x.dev==0)||(x.mem==0&&x.dev !=0)) else inR x.mem 1 8
def OpL.mayB (x:OpL) (j:Nat):Bool:=match j with
 |0=>inR x.dev x.ls 12
 |1=>inR x.old 1 12
 |2=>x.mb
 |3=>inR x.role 1 3
 |5=>x.epoch.named
 |6=>inR x.n 0 2147483647
 |9=>x.of.named
 |11=>inR x.need x.nd x.mo
 |12=>inR x.wait 0 2147483647
 |14=>Bs x.pub
 |_=>true
def OpL.itemsL (x:OpL):Bool:=x.guards.all (fun n=>inR n 1 12)&&(x.refs.all fOk&&(x.past.all Id.named&&(x.path.all (fun y=>Bs y.p&&y.xs.all Bx.may)&&(x.boxes.all Bx.may&&x.hist.all (fun y=>y.f.named)))))
def OpL.loopB (x:OpL) (has:Nat):Bool:=(List.range 16).all (fun j=> !has.testBit j||x.mayB j)
def OpL.rngB (x:OpL) (has:Nat):Bool:=inR x.by_ 1 12&&(inR x.sq 1 2147483647&&(inR x.at_ 0 2147483647&&(x.loopB has&&x.itemsL)))
def RA (x:OpL) (has:Nat) (left:Lit→Bool):Prop:=∀j,j<16→left (.int .i64 ((2^j:Nat):Int))=false→has.testBit j=true→x.mayB j=true
def mayIns:List (Nat × Int × Nat):=[(5,(1:Int),62),(9,(2:Int),65),(11,(4:Int),66),(15,(8:Int),69),(19,(64:Int),72),(23,(4096:Int),75),(29,(2048:Int),80),(33,(32:Int),83),(37,(512:Int),86),(41,(16384:Int),89)]
def Pj (x:OpL) (t:Nat):Bool:=match t with
 |62=>x.mayB 0
 |65=>x.mayB 1
 |66=>x.mayB 2
 |69=>x.mayB 3
 |72=>x.mayB 6
 |75=>x.mayB 12
 |80=>x.mayB 11
 |83=>x.mayB 5
 |86=>x.mayB 9
 |89=>x.mayB 14
 |_=>false
def mayCv (x:OpL) (t:Nat):Bool:=match t with
 |4=>x.mayB 0
 |8=>x.mayB 1
 |14=>x.mayB 3
 |18=>x.mayB 6
 |22=>x.mayB 12
 |28=>x.mayB 11
 |32=>x.mayB 5
 |36=>x.mayB 9
 |40=>x.mayB 14
 |_=>false
theorem Xi (x:OpL):∀y∈mayIns,∃j,j<16∧y.2.1=((2^j:Nat):Int)∧Pj x y.2.2=x.mayB j:=by
 unfold mayIns;refine List.forall_mem_cons.2 ⟨⟨0,by decide,rfl,rfl⟩,?_⟩;refine List.forall_mem_cons.2 ⟨⟨1,by decide,rfl,rfl⟩,?_⟩;refine List.forall_mem_cons.2 ⟨⟨2,by decide,rfl,rfl⟩,?_⟩;refine List.forall_mem_cons.2 ⟨⟨3,by decide,rfl,rfl⟩,?_⟩;refine List.forall_mem_cons.2 ⟨⟨6,by decide,rfl,rfl⟩,?_⟩;refine List.forall_mem_cons.2 ⟨⟨12,by decide,rfl,rfl⟩,?_⟩;refine List.forall_mem_cons.2 ⟨⟨11,by decide,rfl,rfl⟩,?_⟩;refine List.forall_mem_cons.2 ⟨⟨5,by decide,rfl,rfl⟩,?_⟩;refine List.forall_mem_cons.2 ⟨⟨9,by decide,rfl,rfl⟩,?_⟩;refine List.forall_mem_cons.2 ⟨⟨14,by decide,rfl,rfl⟩,?_⟩;exact fun y hy=>absurd hy (by simp)
theorem Xj:∀j,j<16→(mayIns.find? (fun y=>y.2.1==((2^j:Nat):Int))).isSome=false→j=4∨j=7∨j=8∨j=10∨j=13∨j=15:=by decide
theorem RA.start {x:OpL} {has:Nat} {left:Lit→Bool} (h:∀j,j<16→left (.int .i64 ((2^j:Nat):Int))=(mayIns.find? (fun y=>y.2.1==((2^j:Nat):Int))).isSome):RA x has left:=by
 intro j hj hl _;rw [h j hj] at hl
 rcases Xj j hj hl with rfl|rfl|rfl|rfl|rfl|rfl<;>rfl
theorem RA.step {x:OpL} {has j:Nat} {left:Lit→Bool} (h:RA x has left) (hj:j<16) (hb:has.testBit j=true→x.mayB j=true):RA x has (fun z=>left z&& !z.sameKey (.int .i64 ((2^j:Nat):Int))):=by
 intro i hi hl hbi
 by_cases hij:i=j
 ·
  subst hij;exact hb hbi
 ·
  replace hl:(left (.int .i64 ((2^i:Nat):Int))&& !(Lit.int .i64 ((2^i:Nat):Int)).sameKey (.int .i64 ((2^j:Nat):Int)))=false:=hl;rw [Pd hij] at hl;exact h i hi (by simpa using hl) hbi
theorem RA.done {x:OpL} {has:Nat} {left:Lit→Bool} (h:RA x has left) (hl:∀kl,left kl=false):x.loopB has=true:=by
 unfold OpL.loopB;rw [List.all_eq_true];intro j hj;have hj':j<16:=by simpa using hj
 cases hb:has.testBit j with
 |false=>rfl
 |true=>rw [h j hj' (hl _) hb];rfl
theorem Xk {x:OpL} {has j:Nat} (hj:j<16) (hb:has.testBit j=true) (hm:x.mayB j=false):x.loopB has=false:=by
 unfold OpL.loopB;rw [List.all_eq_false];exact ⟨j,by simpa using hj,by rw [hb,hm];decide⟩
theorem Xl (x:OpL) (has:Nat) (hhas:has<65536) (w:World) (hat:x.at w w.heap.size) (hok:x.op.ok):Calls Tryz.prog 106 #[.agg x.cells,.int .i64 (has:Int)] w (Ac (x.rngB has) w):=by
 have ba:=Blk.new w 67 x.cells;have f0:Fr Non w (w.alloc (.cells x.cells 67)):=(Fr.refl Non w).alloc _;have c0:(w.alloc (.cells x.cells 67)).cell? ⟨w.heap.size,0,none⟩=some (.int .i64 x.by_):=ba.cell 0;have c1:(w.alloc (.cells x.cells 67)).cell? ⟨w.heap.size,1,none⟩=some (.int .i64 x.sq):=ba.cell 1;have c2:(w.alloc (.cells x.cells 67)).cell? ⟨w.heap.size,2,none⟩=some (.int .i64 x.kind):=ba.cell 2;have c3:(w.alloc (.cells x.cells 67)).cell? ⟨w.heap.size,3,none⟩=some (.int .i64 x.at_):=ba.cell 3;have c4:(w.alloc (.cells x.cells 67)).cell? ⟨w.heap.size,4,none⟩=some (.slice x.pastA x.past.length x.pastC):=ba.cell 4;have c5:(w.alloc (.cells x.cells 67)).cell? ⟨w.heap.size,5,none⟩=some (.int .i64 x.dev):=ba.cell 5;have c6:(w.alloc (.cells x.cells 67)).cell? ⟨w.heap.size,6,none⟩=some (.int .i64 x.old):=ba.cell 6;have c7:(w.alloc (.cells x.cells 67)).cell? ⟨w.heap.size,7,none⟩=some (.int .i64 x.mem):=ba.cell 7;have c8:(w.alloc (.cells x.cells 67)).cell? ⟨w.heap.size,8,none⟩=some (.int .i64 x.role):=ba.cell 8;have c9:(w.alloc (.cells x.cells 67)).cell? ⟨w.heap.size,9,none⟩=some (.slice x.pathA x.path.length x.pathC):=ba.cell 9;have dw:(w.alloc (.cells x.cells 67)).cell? ⟨w.heap.size,10,none⟩=some (.int .i64 x.epoch.b):=ba.cell 10;have dm:(w.alloc (.cells x.cells 67)).cell? ⟨w.heap.size,11,none⟩=some (.int .i64 x.epoch.s):=ba.cell 11;have df:(w.alloc (.cells x.cells 67)).cell? ⟨w.heap.size,12,none⟩=some (.int .u64 (x.epoch.u:Int)):=ba.cell 12;have dy:(w.alloc (.cells x.cells 67)).cell? ⟨w.heap.size,13,none⟩=some (.int .i64 x.n):=ba.cell 13;have bb:(w.alloc (.cells x.cells 67)).cell? ⟨w.heap.size,15,none⟩=some (.slice x.refsA x.refs.length x.refsC):=ba.cell 15;have dp:(w.alloc (.cells x.cells 67)).cell? ⟨w.heap.size,16,none⟩=some (.int .i64 x.of.b):=ba.cell 16;have dl:(w.alloc (.cells x.cells 67)).cell? ⟨w.heap.size,17,none⟩=some (.int .i64 x.of.s):=ba.cell 17;have dn:(w.alloc (.cells x.cells 67)).cell? ⟨w.heap.size,18,none⟩=some (.int .u64 (x.of.u:Int)):=ba.cell 18;have cb:(w.alloc (.cells x.cells 67)).cell? ⟨w.heap.size,19,none⟩=some (.slice x.guardsA x.guards.length x.guardsC):=ba.cell 19;have dg:(w.alloc (.cells x.cells 67)).cell? ⟨w.heap.size,20,none⟩=some (.int .i64 x.need):=ba.cell 20;have dz:(w.alloc (.cells x.cells 67)).cell? ⟨w.heap.size,21,none⟩=some (.int .i64 x.wait):=ba.cell 21;have ab:(w.alloc (.cells x.cells 67)).cell? ⟨w.heap.size,22,none⟩=some (.slice x.boxesA x.boxes.length x.boxesC):=ba.cell 22;have dv:(w.alloc (.cells x.cells 67)).cell? ⟨w.heap.size,23,none⟩=some (.int .u64 (x.pub:Int)):=ba.cell 23;have aa:(w.alloc (.cells x.cells 67)).cell? ⟨w.heap.size,24,none⟩=some (.slice x.histA x.hist.length x.histC):=ba.cell 24;have ca:x.guards.length≤1000000:=by have h:=hok.guards.1;rw [show x.op.guards=x.guards from rfl] at h;omega
 have cv:x.refs.length≤1000000:=by have h:=hok.refs.1;rw [show x.op.refs=x.refs from rfl] at h;omega
 have cd:x.boxes.length≤1000000:=by have h:=hok.boxes.1;rw [show x.op.boxes=x.boxes from rfl] at h;omega
 have ci:∀y∈x.path,y.xs.length≤1000000:=fun y hy=>by have h:=(hok.path.2 y.nd (List.mem_map.2 ⟨y,hy,rfl⟩)).2.1;rw [show y.nd.xs=y.xs from rfl] at h;omega
 have dh:x.past.length≤1000000:=by have h:=hok.past.1;rw [show x.op.past=x.past from rfl] at h;omega
 have cy:x.path.length≤1000000:=by have h:=hok.path.1;rw [show x.op.path=x.path.map NdL.nd from rfl,List.length_map] at h;omega
 have du:x.hist.length≤1000000:=by have h:=hok.hist.1;rw [show x.op.hist=x.hist.map SlL.sl from rfl,List.length_map] at h;omega
 have cz:=Lib.hid (fun w'=>Cy x.by_ 1 12 w');have d1:=Lib.hid (fun w'=>Cy x.sq 1 2147483647 w');have cx:=Lib.hid (fun w'=>Cy x.at_ 0 2147483647 w');have km:=Lib.hid (fun w'=>Cy x.mem 1 8 w');have cr:=Lib.hid (fun (w':World) (h:Fr Non w w')=>Wn w.heap.size x.guards.length x.guardsC x.guardsA x.guards (fun n=>inR n 1 12) w' rfl (hat.guards.1.fr h zr) ca (fun y _ ad _=>Xd y ad));have cs:=Lib.hid (fun (w':World) (h:Fr Non w w')=>Wq w.heap.size x.refs.length x.refsC x.refsA x.refs fOk w' rfl (hat.refs.1.fr h zr) cv (fun y _ ad _=>Ii y ad));have cn:=Lib.hid (fun (w':World) (h:Fr Non w w')=>Wt w.heap.size x.past.length x.pastC x.pastA x.past Id.named w' rfl (hat.past.1.fr h zr) dh (fun y _ ad _=>Ij y ad));have cp:=Lib.hid (fun (w':World) (h:Fr Non w w')=>Wz w.heap.size x.path.length x.pathC x.pathA x.path (fun y=>Bs y.p&&y.xs.all Bx.may) w' rfl (hat.path.1.fr h zr) cy (fun y hy ad h'=>Xh w.heap.size y ad ((hat.nodes y hy).fr (h.trans h' zr) zr) (ci y hy)));have cu:=Lib.hid (fun (w':World) (h:Fr Non w w')=>Pg w.heap.size x.boxes.length x.boxesC x.boxesA x.boxes Bx.may w' rfl (hat.boxes.1.fr h zr) cd (fun y _ ad _=>Ph y ad));have ct:=Lib.hid (fun (w':World) (h:Fr Non w w')=>W9 w.heap.size x.hist.length x.histC x.histA x.hist (fun y=>y.f.named) w' rfl (hat.hist.1.fr h zr) du (fun y _ ad _=>Xe y ad));have ac:Hid (x.rngB has=(inR x.by_ 1 12&&(inR x.sq 1 2147483647&&(inR x.at_ 0 2147483647&&(x.loopB has&&(x.guards.all (fun n=>inR n 1 12)&&(x.refs.all fOk&&(x.past.all Id.named&&(x.path.all (fun y=>Bs y.p&&y.xs.all Bx.may)&&(x.boxes.all Bx.may&&x.hist.all (fun y=>y.f.named))))))))))):=rfl;generalize x.rngB has=LB at*;generalize inR x.by_ 1 12=b1 at*;generalize inR x.sq 1 2147483647=b2 at*;generalize inR x.at_ 0 2147483647=b3 at*;generalize (x.guards.all (fun n=>inR n 1 12))=g1 at*;generalize (x.refs.all fOk)=g2 at*;generalize (x.past.all Id.named)=g3 at*;generalize (x.path.all (fun y=>Bs y.p&&y.xs.all Bx.may))=g4 at*;generalize (x.boxes.all Bx.may)=g5 at*;generalize (x.hist.all (fun y=>y.f.named))=g6 at*;generalize x.cells=CS at*;clear ba hat hok dh cy du ca cv ci cd
 cases b1
 ·
  have hv:Hid (false=LB):=by show _=_;rw [ac.out];rfl
  clear ac;go_enter Tryz.func106,Tryz.ntmps106;go_wp2_with (first
  |(go_at_call 149;(with_reducible refine (cz.out _).mono ?_);rintro _ v1 ⟨rfl,f1⟩;have dt:=f0.trans f1 zr;clear cz;have cq:=f1.cell c1 zq;have bn:=f1.cell c2 zq;have b8:=f1.cell c3 zq;have bd:=f1.cell c4 zq;have bx:=f1.cell c5 zq;have bc:=f1.cell c6 zq;have bf:=f1.cell c7 zq;have b6:=f1.cell c8 zq;have b7:=f1.cell c9 zq;have a2:=f1.cell dw zq;have aq:=f1.cell dm zq;have av:=f1.cell df zq;have az:=f1.cell dy zq;have af:=f1.cell bb zq;have ak:=f1.cell dp zq;have ao:=f1.cell dl zq;have al:=f1.cell dn zq;have ar:=f1.cell cb zq;have a7:=f1.cell dg zq;have ai:=f1.cell dz zq;have a4:=f1.cell ab zq;have ah:=f1.cell dv zq;have ae:=f1.cell aa zq)
  |(go_at_call 149;(with_reducible refine (d1.out _).mono ?_);rintro _ v2 ⟨rfl,f2⟩;have d2:=dt.trans f2 zr;clear d1;have b0:=f2.cell bn zq;have cm:=f2.cell b8 zq;have bg:=f2.cell bd zq;have bu:=f2.cell bx zq;have bo:=f2.cell bc zq;have bk:=f2.cell bf zq;have bp:=f2.cell b6 zq;have bs:=f2.cell b7 zq;have ap:=f2.cell a2 zq;have aw:=f2.cell aq zq;have ax:=f2.cell av zq;have au:=f2.cell az zq;have a6:=f2.cell af zq;have ag:=f2.cell ak zq;have a5:=f2.cell ao zq;have a1:=f2.cell al zq;have a3:=f2.cell ar zq;have aj:=f2.cell a7 zq;have a8:=f2.cell ai zq;have a0:=f2.cell a4 zq;have ay:=f2.cell ah zq;have a9:=f2.cell ae zq)
  |(go_at_call 149;(with_reducible refine (cx.out _).mono ?_);rintro _ v3 ⟨rfl,f3⟩;have ed:=d2.trans f3 zr;clear cx;have ck:=f3.cell b0 zq;have cf:=f3.cell bg zq;have ce:=f3.cell bu zq;have cl:=f3.cell bo zq;have cj:=f3.cell bk zq;have ch:=f3.cell bp zq;have cg:=f3.cell bs zq;have bi:=f3.cell ap zq;have be:=f3.cell aw zq;have bl:=f3.cell ax zq;have b5:=f3.cell au zq;have bq:=f3.cell a6 zq;have b4:=f3.cell ag zq;have bj:=f3.cell a5 zq;have bt:=f3.cell a1 zq;have bh:=f3.cell a3 zq;have bw:=f3.cell aj zq;have bm:=f3.cell a8 zq;have bz:=f3.cell a0 zq;have br:=f3.cell ay zq;have bv:=f3.cell a9 zq))
  go_ret
  exact ⟨congrArg (fun z=>Ending.returned (.bool z)) hv.out,dt⟩
 cases b2
 ·
  have hv:Hid (false=LB):=by show _=_;rw [ac.out];rfl
  clear ac;go_enter Tryz.func106,Tryz.ntmps106;go_wp2_with (first
  |(go_at_call 149;(with_reducible refine (cz.out _).mono ?_);rintro _ v1 ⟨rfl,f1⟩;have dt:=f0.trans f1 zr;clear cz;have cq:=f1.cell c1 zq;have bn:=f1.cell c2 zq;have b8:=f1.cell c3 zq;have bd:=f1.cell c4 zq;have bx:=f1.cell c5 zq;have bc:=f1.cell c6 zq;have bf:=f1.cell c7 zq;have b6:=f1.cell c8 zq;have b7:=f1.cell c9 zq;have a2:=f1.cell dw zq;have aq:=f1.cell dm zq;have av:=f1.cell df zq;have az:=f1.cell dy zq;have af:=f1.cell bb zq;have ak:=f1.cell dp zq;have ao:=f1.cell dl zq;have al:=f1.cell dn zq;have ar:=f1.cell cb zq;have a7:=f1.cell dg zq;have ai:=f1.cell dz zq;have a4:=f1.cell ab zq;have ah:=f1.cell dv zq;have ae:=f1.cell aa zq)
  |(go_at_call 149;(with_reducible refine (d1.out _).mono ?_);rintro _ v2 ⟨rfl,f2⟩;have d2:=dt.trans f2 zr;clear d1;have b0:=f2.cell bn zq;have cm:=f2.cell b8 zq;have bg:=f2.cell bd zq;have bu:=f2.cell bx zq;have bo:=f2.cell bc zq;have bk:=f2.cell bf zq;have bp:=f2.cell b6 zq;have bs:=f2.cell b7 zq;have ap:=f2.cell a2 zq;have aw:=f2.cell aq zq;have ax:=f2.cell av zq;have au:=f2.cell az zq;have a6:=f2.cell af zq;have ag:=f2.cell ak zq;have a5:=f2.cell ao zq;have a1:=f2.cell al zq;have a3:=f2.cell ar zq;have aj:=f2.cell a7 zq;have a8:=f2.cell ai zq;have a0:=f2.cell a4 zq;have ay:=f2.cell ah zq;have a9:=f2.cell ae zq)
  |(go_at_call 149;(with_reducible refine (cx.out _).mono ?_);rintro _ v3 ⟨rfl,f3⟩;have ed:=d2.trans f3 zr;clear cx;have ck:=f3.cell b0 zq;have cf:=f3.cell bg zq;have ce:=f3.cell bu zq;have cl:=f3.cell bo zq;have cj:=f3.cell bk zq;have ch:=f3.cell bp zq;have cg:=f3.cell bs zq;have bi:=f3.cell ap zq;have be:=f3.cell aw zq;have bl:=f3.cell ax zq;have b5:=f3.cell au zq;have bq:=f3.cell a6 zq;have b4:=f3.cell ag zq;have bj:=f3.cell a5 zq;have bt:=f3.cell a1 zq;have bh:=f3.cell a3 zq;have bw:=f3.cell aj zq;have bm:=f3.cell a8 zq;have bz:=f3.cell a0 zq;have br:=f3.cell ay zq;have bv:=f3.cell a9 zq))
  go_ret
  exact ⟨congrArg (fun z=>Ending.returned (.bool z)) hv.out,d2⟩
 cases b3
 ·
  have hv:Hid (false=LB):=by show _=_;rw [ac.out];rfl
  clear ac;go_enter Tryz.func106,Tryz.ntmps106;go_wp2_with (first
  |(go_at_call 149;(with_reducible refine (cz.out _).mono ?_);rintro _ v1 ⟨rfl,f1⟩;have dt:=f0.trans f1 zr;clear cz;have cq:=f1.cell c1 zq;have bn:=f1.cell c2 zq;have b8:=f1.cell c3 zq;have bd:=f1.cell c4 zq;have bx:=f1.cell c5 zq;have bc:=f1.cell c6 zq;have bf:=f1.cell c7 zq;have b6:=f1.cell c8 zq;have b7:=f1.cell c9 zq;have a2:=f1.cell dw zq;have aq:=f1.cell dm zq;have av:=f1.cell df zq;have az:=f1.cell dy zq;have af:=f1.cell bb zq;have ak:=f1.cell dp zq;have ao:=f1.cell dl zq;have al:=f1.cell dn zq;have ar:=f1.cell cb zq;have a7:=f1.cell dg zq;have ai:=f1.cell dz zq;have a4:=f1.cell ab zq;have ah:=f1.cell dv zq;have ae:=f1.cell aa zq)
  |(go_at_call 149;(with_reducible refine (d1.out _).mono ?_);rintro _ v2 ⟨rfl,f2⟩;have d2:=dt.trans f2 zr;clear d1;have b0:=f2.cell bn zq;have cm:=f2.cell b8 zq;have bg:=f2.cell bd zq;have bu:=f2.cell bx zq;have bo:=f2.cell bc zq;have bk:=f2.cell bf zq;have bp:=f2.cell b6 zq;have bs:=f2.cell b7 zq;have ap:=f2.cell a2 zq;have aw:=f2.cell aq zq;have ax:=f2.cell av zq;have au:=f2.cell az zq;have a6:=f2.cell af zq;have ag:=f2.cell ak zq;have a5:=f2.cell ao zq;have a1:=f2.cell al zq;have a3:=f2.cell ar zq;have aj:=f2.cell a7 zq;have a8:=f2.cell ai zq;have a0:=f2.cell a4 zq;have ay:=f2.cell ah zq;have a9:=f2.cell ae zq)
  |(go_at_call 149;(with_reducible refine (cx.out _).mono ?_);rintro _ v3 ⟨rfl,f3⟩;have ed:=d2.trans f3 zr;clear cx;have ck:=f3.cell b0 zq;have cf:=f3.cell bg zq;have ce:=f3.cell bu zq;have cl:=f3.cell bo zq;have cj:=f3.cell bk zq;have ch:=f3.cell bp zq;have cg:=f3.cell bs zq;have bi:=f3.cell ap zq;have be:=f3.cell aw zq;have bl:=f3.cell ax zq;have b5:=f3.cell au zq;have bq:=f3.cell a6 zq;have b4:=f3.cell ag zq;have bj:=f3.cell a5 zq;have bt:=f3.cell a1 zq;have bh:=f3.cell a3 zq;have bw:=f3.cell aj zq;have bm:=f3.cell a8 zq;have bz:=f3.cell a0 zq;have br:=f3.cell ay zq;have bv:=f3.cell a9 zq))
  go_ret
  exact ⟨congrArg (fun z=>Ending.returned (.bool z)) hv.out,ed⟩
 replace ac:Hid (LB=(x.loopB has&&(g1&&(g2&&(g3&&(g4&&(g5&&g6))))))):=ac;go_enter Tryz.func106,Tryz.ntmps106
 go_wp2_with (first
  |(go_at_call 149;(with_reducible refine (cz.out _).mono ?_);rintro _ v1 ⟨rfl,f1⟩;have dt:=f0.trans f1 zr;clear cz;have cq:=f1.cell c1 zq;have bn:=f1.cell c2 zq;have b8:=f1.cell c3 zq;have bd:=f1.cell c4 zq;have bx:=f1.cell c5 zq;have bc:=f1.cell c6 zq;have bf:=f1.cell c7 zq;have b6:=f1.cell c8 zq;have b7:=f1.cell c9 zq;have a2:=f1.cell dw zq;have aq:=f1.cell dm zq;have av:=f1.cell df zq;have az:=f1.cell dy zq;have af:=f1.cell bb zq;have ak:=f1.cell dp zq;have ao:=f1.cell dl zq;have al:=f1.cell dn zq;have ar:=f1.cell cb zq;have a7:=f1.cell dg zq;have ai:=f1.cell dz zq;have a4:=f1.cell ab zq;have ah:=f1.cell dv zq;have ae:=f1.cell aa zq)
  |(go_at_call 149;(with_reducible refine (d1.out _).mono ?_);rintro _ v2 ⟨rfl,f2⟩;have d2:=dt.trans f2 zr;clear d1;have b0:=f2.cell bn zq;have cm:=f2.cell b8 zq;have bg:=f2.cell bd zq;have bu:=f2.cell bx zq;have bo:=f2.cell bc zq;have bk:=f2.cell bf zq;have bp:=f2.cell b6 zq;have bs:=f2.cell b7 zq;have ap:=f2.cell a2 zq;have aw:=f2.cell aq zq;have ax:=f2.cell av zq;have au:=f2.cell az zq;have a6:=f2.cell af zq;have ag:=f2.cell ak zq;have a5:=f2.cell ao zq;have a1:=f2.cell al zq;have a3:=f2.cell ar zq;have aj:=f2.cell a7 zq;have a8:=f2.cell ai zq;have a0:=f2.cell a4 zq;have ay:=f2.cell ah zq;have a9:=f2.cell ae zq)
  |(go_at_call 149;(with_reducible refine (cx.out _).mono ?_);rintro _ v3 ⟨rfl,f3⟩;have ed:=d2.trans f3 zr;clear cx;have ck:=f3.cell b0 zq;have cf:=f3.cell bg zq;have ce:=f3.cell bu zq;have cl:=f3.cell bo zq;have cj:=f3.cell bk zq;have ch:=f3.cell bp zq;have cg:=f3.cell bs zq;have bi:=f3.cell ap zq;have be:=f3.cell aw zq;have bl:=f3.cell ax zq;have b5:=f3.cell au zq;have bq:=f3.cell a6 zq;have b4:=f3.cell ag zq;have bj:=f3.cell a5 zq;have bt:=f3.cell a1 zq;have bh:=f3.cell a3 zq;have bw:=f3.cell aj zq;have bm:=f3.cell a8 zq;have bz:=f3.cell a0 zq;have br:=f3.cell ay zq;have bv:=f3.cell a9 zq))
 go_quiet (fail)
 have fc:Fr Non w (v3.drewN nq):=ed.drewN nq;have d9:(v3.drewN nq).cell? ⟨w.heap.size,2,none⟩=some (.int .i64 x.kind):=ck;have ei:(v3.drewN nq).cell? ⟨w.heap.size,4,none⟩=some (.slice x.pastA x.past.length x.pastC):=cf;have er:(v3.drewN nq).cell? ⟨w.heap.size,5,none⟩=some (.int .i64 x.dev):=ce;have eh:(v3.drewN nq).cell? ⟨w.heap.size,6,none⟩=some (.int .i64 x.old):=cl;have ef:(v3.drewN nq).cell? ⟨w.heap.size,7,none⟩=some (.int .i64 x.mem):=cj;have eo:(v3.drewN nq).cell? ⟨w.heap.size,8,none⟩=some (.int .i64 x.role):=ch;have ej:(v3.drewN nq).cell? ⟨w.heap.size,9,none⟩=some (.slice x.pathA x.path.length x.pathC):=cg;have dr:(v3.drewN nq).cell? ⟨w.heap.size,10,none⟩=some (.int .i64 x.epoch.b):=bi;have da:(v3.drewN nq).cell? ⟨w.heap.size,11,none⟩=some (.int .i64 x.epoch.s):=be;have dd:(v3.drewN nq).cell? ⟨w.heap.size,12,none⟩=some (.int .u64 (x.epoch.u:Int)):=bl;have dc:(v3.drewN nq).cell? ⟨w.heap.size,13,none⟩=some (.int .i64 x.n):=b5;have dq:(v3.drewN nq).cell? ⟨w.heap.size,15,none⟩=some (.slice x.refsA x.refs.length x.refsC):=bq;have de:(v3.drewN nq).cell? ⟨w.heap.size,16,none⟩=some (.int .i64 x.of.b):=b4;have dk:(v3.drewN nq).cell? ⟨w.heap.size,17,none⟩=some (.int .i64 x.of.s):=bj;have cw:(v3.drewN nq).cell? ⟨w.heap.size,18,none⟩=some (.int .u64 (x.of.u:Int)):=bt;have ds:(v3.drewN nq).cell? ⟨w.heap.size,19,none⟩=some (.slice x.guardsA x.guards.length x.guardsC):=bh;have d4:(v3.drewN nq).cell? ⟨w.heap.size,20,none⟩=some (.int .i64 x.need):=bw;have di:(v3.drewN nq).cell? ⟨w.heap.size,21,none⟩=some (.int .i64 x.wait):=bm;have dx:(v3.drewN nq).cell? ⟨w.heap.size,22,none⟩=some (.slice x.boxesA x.boxes.length x.boxesC):=bz;have dj:(v3.drewN nq).cell? ⟨w.heap.size,23,none⟩=some (.int .u64 (x.pub:Int)):=br;have d3:(v3.drewN nq).cell? ⟨w.heap.size,24,none⟩=some (.slice x.histA x.hist.length x.histC):=bv;generalize v3.drewN nq=v4 at*;clear ck cf ce cl cj ch cg bi be bl b5 bq b4 bj bt bh bw bm bz br bv b0 cm bg bu bo bk bp bs ap aw ax au a6 ag a5 a1 a3 aj a8 a0 ay a9 cq bn b8 bd bx bc bf b6 b7 a2 aq av az af ak ao al ar a7 ai a4 ah ae c0 c1 c2 c3 c4 c5 c6 c7 c8 c9 dw dm df dy bb dp dl dn cb dg dz ab dv aa
 go_upto_if 38 with (go_at_call 149;(with_reducible refine (km.out _).mono ?_);rintro _ v5 ⟨rfl,f5⟩;have el:=fc.trans f5 zr;clear km;have c2:=f5.cell d9 zq;have c4:=f5.cell ei zq;have c5:=f5.cell er zq;have c6:=f5.cell eh zq;have c7:=f5.cell ef zq;have c8:=f5.cell eo zq;have c9:=f5.cell ej zq;have dw:=f5.cell dr zq;have dm:=f5.cell da zq;have df:=f5.cell dd zq;have dy:=f5.cell dc zq;have bb:=f5.cell dq zq;have dp:=f5.cell de zq;have dl:=f5.cell dk zq;have dn:=f5.cell cw zq;have cb:=f5.cell ds zq;have dg:=f5.cell d4 zq;have dz:=f5.cell di zq;have ab:=f5.cell dx zq;have dv:=f5.cell dj zq;have aa:=f5.cell d3 zq)
 clear d9 ei er eh ef eo ej dr da dd dc dq de dk cw ds d4 di dx dj d3 fc f5;generalize hv5:v5=W at*
 go_cut [5,8] from 14 (fun a b wc=>W=wc∧a=.int .i64 x.ls∧b=.bool x.mb)
 case first=>
  by_cases k3:x.kind=3
  ·
   have h1:Hid (x.ls=0):=if_pos k3;have fn:Hid (x.mb=((inR x.mem 1 8&&x.dev==0)||(x.mem==0&&x.dev !=0))):=if_pos k3;have ev:=Hc k3;clear k3;generalize inR x.mem 1 8=m1 at*
   rcases zb (x.dev==0) with d0|d0<;>rcases zb (x.mem==0) with e0|e0<;>cases m1
   all_goals
    have fk:(x.dev !=0)=!(x.dev==0):=rfl;rw [d0] at fk;have h2:=fn.out;rw [d0,e0,fk] at h2;replace h2:=Lib.hid h2;clear fn;go_wp2_with (fail);go_meet;exact ⟨rfl,congrArg (Value.int .i64) h1.out.symm,congrArg Value.bool h2.out.symm⟩
  ·
   have h1:Hid (x.ls=1):=if_neg k3;have h2:Hid (x.mb=inR x.mem 1 8):=if_neg k3;have ev:=Fm k3;clear k3;go_wp2_with (fail);go_meet;exact ⟨rfl,congrArg (Value.int .i64) h1.out.symm,congrArg Value.bool h2.out.symm⟩
 case rest=>
 obtain ⟨rfl,rfl,rfl⟩:=hcut
 go_upto_if 57 with (fail)
 go_cut [6,7] from 14 (fun a b wc=>W=wc∧a=.int .i64 x.nd∧b=.int .i64 x.mo)
 case first=>
  by_cases k3:x.kind=1
  ·
   have h1:Hid (x.nd=0):=if_pos k3;have h2:Hid (x.mo=20):=if_pos k3;have ev:=Hc k3;clear k3;go_wp2_with (fail);go_meet;exact ⟨rfl,congrArg (Value.int .i64) h1.out.symm,congrArg (Value.int .i64) h2.out.symm⟩
  ·
   have h1:Hid (x.nd=1):=if_neg k3;have h2:Hid (x.mo=(x.guards.length:Int)):=if_neg k3;have ev:=Fm k3;clear k3;go_wp2_with (fail);go_meet;exact ⟨rfl,congrArg (Value.int .i64) h1.out.symm,congrArg (Value.int .i64) h2.out.symm⟩
 case rest=>
 obtain ⟨rfl,rfl,rfl⟩:=hcut;go_upto_region 10 with (fail)
 have hS:(fun w'=>w'.cell? ⟨w.heap.size,5,none⟩=some (.int .i64 x.dev)∧w'.cell? ⟨w.heap.size,6,none⟩=some (.int .i64 x.old)∧w'.cell? ⟨w.heap.size,8,none⟩=some (.int .i64 x.role)∧w'.cell? ⟨w.heap.size,10,none⟩=some (.int .i64 x.epoch.b)∧w'.cell? ⟨w.heap.size,11,none⟩=some (.int .i64 x.epoch.s)∧w'.cell? ⟨w.heap.size,12,none⟩=some (.int .u64 (x.epoch.u:Int))∧w'.cell? ⟨w.heap.size,13,none⟩=some (.int .i64 x.n)∧w'.cell? ⟨w.heap.size,16,none⟩=some (.int .i64 x.of.b)∧w'.cell? ⟨w.heap.size,17,none⟩=some (.int .i64 x.of.s)∧w'.cell? ⟨w.heap.size,18,none⟩=some (.int .u64 (x.of.u:Int))∧w'.cell? ⟨w.heap.size,20,none⟩=some (.int .i64 x.need)∧w'.cell? ⟨w.heap.size,21,none⟩=some (.int .i64 x.wait)∧w'.cell? ⟨w.heap.size,23,none⟩=some (.int .u64 (x.pub:Int))) W.drew:=by
  and_intros
  · exact c5
  · exact c6
  · exact c8
  · exact dw
  · exact dm
  · exact df
  · exact dy
  · exact dp
  · exact dl
  · exact dn
  · exact dg
  · exact dz
  · exact dv
 refine wp_region_held_drew (S:=fun w'=>w'.cell? ⟨w.heap.size,5,none⟩=some (.int .i64 x.dev)∧w'.cell? ⟨w.heap.size,6,none⟩=some (.int .i64 x.old)∧w'.cell? ⟨w.heap.size,8,none⟩=some (.int .i64 x.role)∧w'.cell? ⟨w.heap.size,10,none⟩=some (.int .i64 x.epoch.b)∧w'.cell? ⟨w.heap.size,11,none⟩=some (.int .i64 x.epoch.s)∧w'.cell? ⟨w.heap.size,12,none⟩=some (.int .u64 (x.epoch.u:Int))∧w'.cell? ⟨w.heap.size,13,none⟩=some (.int .i64 x.n)∧w'.cell? ⟨w.heap.size,16,none⟩=some (.int .i64 x.of.b)∧w'.cell? ⟨w.heap.size,17,none⟩=some (.int .i64 x.of.s)∧w'.cell? ⟨w.heap.size,18,none⟩=some (.int .u64 (x.of.u:Int))∧w'.cell? ⟨w.heap.size,20,none⟩=some (.int .i64 x.need)∧w'.cell? ⟨w.heap.size,21,none⟩=some (.int .i64 x.wait)∧w'.cell? ⟨w.heap.size,23,none⟩=some (.int .u64 (x.pub:Int))) (by kernel_rfl) hS (fun hHeld=> ?_);clear hHeld;try simp only [List.append_eq,List.cons_append,List.nil_append]
 replace c4:W.drew.cell? ⟨w.heap.size,4,none⟩=some (.slice x.pastA x.past.length x.pastC):=c4;replace c9:W.drew.cell? ⟨w.heap.size,9,none⟩=some (.slice x.pathA x.path.length x.pathC):=c9;replace bb:W.drew.cell? ⟨w.heap.size,15,none⟩=some (.slice x.refsA x.refs.length x.refsC):=bb;replace cb:W.drew.cell? ⟨w.heap.size,19,none⟩=some (.slice x.guardsA x.guards.length x.guardsC):=cb;replace ab:W.drew.cell? ⟨w.heap.size,22,none⟩=some (.slice x.boxesA x.boxes.length x.boxesC):=ab;replace aa:W.drew.cell? ⟨w.heap.size,24,none⟩=some (.slice x.histA x.hist.length x.histC):=aa;replace el:=el.drew;clear c2 c7 c5 c6 c8 dw dm df dy dp dl dn dg dz dv;generalize W.drew=w0 at*;refine tkH 1 hS (h:=tkH 2 hS (h:=tkH 3 hS (h:=tkH 6 hS (h:=tkH 7 hS (h:=tkH 10 hS (h:=tkH 12 hS (h:=tkH 13 hS (h:=tkH 16 hS (h:=tkH 17 hS (h:=tkH 20 hS (h:=tkH 21 hS (h:=?_))))))))))));simp only [List.set];refine tkH 24 hS (h:=tkH 25 hS (h:=tkH 26 hS (h:=tkH 27 hS (h:=tkH 30 hS (h:=tkH 31 hS (h:=tkH 34 hS (h:=tkH 35 hS (h:=tkH 38 hS (h:=tkH 39 hS (h:=?_))))))))));simp only [List.set];refine O7 (H:=Nat) 0 58 203 3 4 [4,8,14,18,22,28,32,36,40] mayIns (Pj x) (mayCv x) _ _ ((Array.replicate 44 true).setIfInBounds 42 false|>.setIfInBounds 43 false) w0 2 (by decide) (by kernel_rfl) (by kernel_rfl) (by kernel_rfl) Tryz.underlying203 Tryz.underlying3 Tryz.underlying4 ?_ ?_ ?_ (by decide) ?_
 ·
  clear ac cr cs cn cp cu ct;refine List.forall_mem_cons.2 ⟨⟨62,_,_,_,_,#[.tmp 60,.tmp 61,.const (.int .i64 12)],rfl,by kernel_rfl,by kernel_rfl,fun a w' K ha hf hk=>Eh rfl Tryz.func149 (by kernel_rfl) rfl (vals:=#[.int .i64 x.dev,.int .i64 x.ls,.int .i64 12]) (ha.trans (by kernel_rfl)) ((Cy x.dev x.ls 12 w').mono ?_)⟩,?_⟩
  ·
   rintro _ ad ⟨rfl,f⟩;exact ⟨_,rfl,hk ad f⟩
  refine List.forall_mem_cons.2 ⟨⟨65,_,_,_,_,#[.tmp 64,.const (.int .i64 1),.const (.int .i64 12)],rfl,by kernel_rfl,by kernel_rfl,fun a w' K ha hf hk=>Eh rfl Tryz.func149 (by kernel_rfl) rfl (vals:=#[.int .i64 x.old,.int .i64 1,.int .i64 12]) (ha.trans (by kernel_rfl)) ((Cy x.old 1 12 w').mono ?_)⟩,?_⟩
  ·
   rintro _ ad ⟨rfl,f⟩;exact ⟨_,rfl,hk ad f⟩
  refine List.forall_mem_cons.2 ⟨⟨69,_,_,_,_,#[.tmp 68,.const (.int .i64 1),.const (.int .i64 3)],rfl,by kernel_rfl,by kernel_rfl,fun a w' K ha hf hk=>Eh rfl Tryz.func149 (by kernel_rfl) rfl (vals:=#[.int .i64 x.role,.int .i64 1,.int .i64 3]) (ha.trans (by kernel_rfl)) ((Cy x.role 1 3 w').mono ?_)⟩,?_⟩
  ·
   rintro _ ad ⟨rfl,f⟩;exact ⟨_,rfl,hk ad f⟩
  refine List.forall_mem_cons.2 ⟨⟨72,_,_,_,_,#[.tmp 71,.const (.int .i64 0),.const (.int .i64 2147483647)],rfl,by kernel_rfl,by kernel_rfl,fun a w' K ha hf hk=>Eh rfl Tryz.func149 (by kernel_rfl) rfl (vals:=#[.int .i64 x.n,.int .i64 0,.int .i64 2147483647]) (ha.trans (by kernel_rfl)) ((Cy x.n 0 2147483647 w').mono ?_)⟩,?_⟩
  ·
   rintro _ ad ⟨rfl,f⟩;exact ⟨_,rfl,hk ad f⟩
  refine List.forall_mem_cons.2 ⟨⟨75,_,_,_,_,#[.tmp 74,.const (.int .i64 0),.const (.int .i64 2147483647)],rfl,by kernel_rfl,by kernel_rfl,fun a w' K ha hf hk=>Eh rfl Tryz.func149 (by kernel_rfl) rfl (vals:=#[.int .i64 x.wait,.int .i64 0,.int .i64 2147483647]) (ha.trans (by kernel_rfl)) ((Cy x.wait 0 2147483647 w').mono ?_)⟩,?_⟩
  ·
   rintro _ ad ⟨rfl,f⟩;exact ⟨_,rfl,hk ad f⟩
  refine List.forall_mem_cons.2 ⟨⟨80,_,_,_,_,#[.tmp 77,.tmp 78,.tmp 79],rfl,by kernel_rfl,by kernel_rfl,fun a w' K ha hf hk=>Eh rfl Tryz.func149 (by kernel_rfl) rfl (vals:=#[.int .i64 x.need,.int .i64 x.nd,.int .i64 x.mo]) (ha.trans (by kernel_rfl)) ((Cy x.need x.nd x.mo w').mono ?_)⟩,?_⟩
  ·
   rintro _ ad ⟨rfl,f⟩;exact ⟨_,rfl,hk ad f⟩
  refine List.forall_mem_cons.2 ⟨⟨83,_,_,_,_,#[.tmp 82],rfl,by kernel_rfl,by kernel_rfl,fun a w' K ha hf hk=>Eh rfl Tryz.func150 (by kernel_rfl) rfl (vals:=#[.agg x.epoch.V]) (ha.trans (by kernel_rfl)) ((Ij x.epoch w').mono ?_)⟩,?_⟩
  ·
   rintro _ ad ⟨rfl,f⟩;exact ⟨_,rfl,hk ad f⟩
  refine List.forall_mem_cons.2 ⟨⟨86,_,_,_,_,#[.tmp 85],rfl,by kernel_rfl,by kernel_rfl,fun a w' K ha hf hk=>Eh rfl Tryz.func150 (by kernel_rfl) rfl (vals:=#[.agg x.of.V]) (ha.trans (by kernel_rfl)) ((Ij x.of w').mono ?_)⟩,?_⟩
  ·
   rintro _ ad ⟨rfl,f⟩;exact ⟨_,rfl,hk ad f⟩
  refine List.forall_mem_cons.2 ⟨⟨89,_,_,_,_,#[.tmp 88],rfl,by kernel_rfl,by kernel_rfl,fun a w' K ha hf hk=>Eh rfl Tryz.func151 (by kernel_rfl) rfl (vals:=#[.int .u64 (x.pub:Int)]) (ha.trans (by kernel_rfl)) ((Ih x.pub w').mono ?_)⟩,?_⟩
  ·
   rintro _ ad ⟨rfl,f⟩;exact ⟨_,rfl,hk ad f⟩
  exact fun y hy=>absurd hy (by simp)
 ·
  clear ac cr cs cn cp cu ct;unfold mayIns;refine List.forall_mem_cons.2 ⟨Or.inr ⟨4,by kernel_rfl,rfl⟩,?_⟩;refine List.forall_mem_cons.2 ⟨Or.inr ⟨8,by kernel_rfl,rfl⟩,?_⟩;refine List.forall_mem_cons.2 ⟨Or.inl ⟨by kernel_rfl,rfl⟩,?_⟩;refine List.forall_mem_cons.2 ⟨Or.inr ⟨14,by kernel_rfl,rfl⟩,?_⟩;refine List.forall_mem_cons.2 ⟨Or.inr ⟨18,by kernel_rfl,rfl⟩,?_⟩;refine List.forall_mem_cons.2 ⟨Or.inr ⟨22,by kernel_rfl,rfl⟩,?_⟩;refine List.forall_mem_cons.2 ⟨Or.inr ⟨28,by kernel_rfl,rfl⟩,?_⟩;refine List.forall_mem_cons.2 ⟨Or.inr ⟨32,by kernel_rfl,rfl⟩,?_⟩;refine List.forall_mem_cons.2 ⟨Or.inr ⟨36,by kernel_rfl,rfl⟩,?_⟩;refine List.forall_mem_cons.2 ⟨Or.inr ⟨40,by kernel_rfl,rfl⟩,?_⟩;exact fun y hy=>absurd hy (by simp)
 ·
  intro w' hf;obtain ⟨q5,q6,q8,ee,eg,em,ec,ep,ek,d8,ea,eb,es⟩:=hS
  and_intros<;>first|exact hf.cell q5 zq|exact hf.cell q6 zq|exact hf.cell q8 zq|exact hf.cell ee zq|exact hf.cell eg zq|exact hf.cell em zq|exact hf.cell ec zq|exact hf.cell ep zq|exact hf.cell ek zq|exact hf.cell d8 zq|exact hf.cell ea zq|exact hf.cell eb zq|exact hf.cell es zq
 intro b w1 D n hF hb et hn cc;rw [O8 ([none,none,none,none,none,none,none,none,none,none,none,none,none,none,none,none,none,none,none,none,none,none,none,none,none,none,none,none,none,none,none,none,none,none,none,none,none,none,none,none,none,none,none,none,none,none,none,none,none,none,none,none,none,none,none,none,none,none,some 0,none,none,none,some 4,none,none,some 8,none,none,none,some 14,none,none,some 18,none,none,some 22,none,none,none,none,some 28,none,none,some 32,none,none,some 36,none,none,some 40,none,none,none,none,none,none,none,none,none,none,none,none,none,none,none,none,none,none,none,none,none,none,none,none,none,none,none,none,none,none,none,none,none,none,none,none,none,none,none,none,none,none,none,none,none,none]) (by kernel_rfl) (by decide)];dsimp only [List.zipWith_cons_cons,List.zipWith_nil_left];simp only [if_true]
 have ez:(fun w'=>w'.cell? ⟨w.heap.size,5,none⟩=some (.int .i64 x.dev)∧w'.cell? ⟨w.heap.size,6,none⟩=some (.int .i64 x.old)∧w'.cell? ⟨w.heap.size,8,none⟩=some (.int .i64 x.role)∧w'.cell? ⟨w.heap.size,10,none⟩=some (.int .i64 x.epoch.b)∧w'.cell? ⟨w.heap.size,11,none⟩=some (.int .i64 x.epoch.s)∧w'.cell? ⟨w.heap.size,12,none⟩=some (.int .u64 (x.epoch.u:Int))∧w'.cell? ⟨w.heap.size,13,none⟩=some (.int .i64 x.n)∧w'.cell? ⟨w.heap.size,16,none⟩=some (.int .i64 x.of.b)∧w'.cell? ⟨w.heap.size,17,none⟩=some (.int .i64 x.of.s)∧w'.cell? ⟨w.heap.size,18,none⟩=some (.int .u64 (x.of.u:Int))∧w'.cell? ⟨w.heap.size,20,none⟩=some (.int .i64 x.need)∧w'.cell? ⟨w.heap.size,21,none⟩=some (.int .i64 x.wait)∧w'.cell? ⟨w.heap.size,23,none⟩=some (.int .u64 (x.pub:Int))) w1:=by
  obtain ⟨q5,q6,q8,ee,eg,em,ec,ep,ek,d8,ea,eb,es⟩:=hS
  and_intros<;>first|exact hF.cell q5 zq|exact hF.cell q6 zq|exact hF.cell q8 zq|exact hF.cell ee zq|exact hF.cell eg zq|exact hF.cell em zq|exact hF.cell ec zq|exact hF.cell ep zq|exact hF.cell ek zq|exact hF.cell d8 zq|exact hF.cell ea zq|exact hF.cell eb zq|exact hF.cell es zq
 refine tkH 42 ez (h:=?_);simp only [List.set];refine Ms 43 (by kernel_rfl) rfl (fun K hK=> ?_);refine O9 rfl rfl et (int_keyed Tryz.underlying3) Tryz.underlying203 ?_;intro w2 d7 fq fw;have b9:=Fr.ofGrown fq (fun k hk=>by cases hk);have db:=hF.trans b9 zr;have fm:=el.trans db zr;refine hK.out _ _ ?_ (fun _=> ?_)
 ·
  obtain ⟨q5,q6,q8,ee,eg,em,ec,ep,ek,d8,ea,eb,es⟩:=ez
  and_intros<;>first|exact b9.cell q5 zq|exact b9.cell q6 zq|exact b9.cell q8 zq|exact b9.cell ee zq|exact b9.cell eg zq|exact b9.cell em zq|exact b9.cell ec zq|exact b9.cell ep zq|exact b9.cell ek zq|exact b9.cell d8 zq|exact b9.cell ea zq|exact b9.cell eb zq|exact b9.cell es zq
 clear hK K;rw [Ag];simp only [List.set];refine oD ?_;have fv:w.heap.size<w1.heap.size:=Nat.lt_of_lt_of_le (World.block_lt_of_cell? _ _ cb) hF.size;replace c4:=db.cell c4 zq;replace c9:=db.cell c9 zq;replace bb:=db.cell bb zq;replace cb:=db.cell cb zq;replace ab:=db.cell ab zq;replace aa:=db.cell aa zq;have ew:=(el.trans hF zr).size;clear ez hS db b9 hF el;go_simp;go_wp2_with (fail)
 go_loopw [] (fun wr=>∃(co:Lit→Bool) (e8:Nat),wr.ranges Tryz.prog 3 (plainElem Tryz.prog 4) b w1.heap.size n D co e8∧Hid (RA x has co)∧Fr Non w wr∧Fr (fun k=>w1.heap.size≤k) w2 wr) (fun wr=>wr.rangeLeft b w1.heap.size)
 case atStart=>exact ⟨_,_,d7,RA.start (fun j hj=>by rw [(cc.2 _).1,Option.isSome_map]),fm,Fr.refl _ _⟩
 case round=>
  obtain ⟨co,e8,d7,eu,hF,d5⟩:=hrel;clear fm
  go_wp2_with (first
   |(at_next;refine Pa _ rfl _ rfl 3 4 Tryz.underlying3 Tryz.underlying4 b w1.heap.size n D co e8 rfl d7 ?_ ?_)
   |go_in)
  ·
   intro fp ff;have hd:=RA.done eu ff;replace ac:Hid (LB=(g1&&(g2&&(g3&&(g4&&(g5&&g6)))))):=by show _=_;rw [ac.out,hd];rfl
   subst fp;clear d7 hd ff eu cc;replace c4:=d5.cell c4 (by show ¬w1.heap.size≤w.heap.size;omega);replace c9:=d5.cell c9 (by show ¬w1.heap.size≤w.heap.size;omega);replace bb:=d5.cell bb (by show ¬w1.heap.size≤w.heap.size;omega);replace cb:=d5.cell cb (by show ¬w1.heap.size≤w.heap.size;omega);replace ab:=d5.cell ab (by show ¬w1.heap.size≤w.heap.size;omega);replace aa:=d5.cell aa (by show ¬w1.heap.size≤w.heap.size;omega)
   cases g1
   ·
    have hv:Hid (false=LB):=ac.out.symm;clear ac;go_wp2_with (first|(go_at_call 157;(with_reducible refine (cr.out _ hF).mono ?_);rintro _ v0 ⟨rfl,e0⟩;have hF:=hF.trans e0 zr;have bb:=e0.cell bb zq;have c4:=e0.cell c4 zq;have c9:=e0.cell c9 zq;have ab:=e0.cell ab zq;have aa:=e0.cell aa zq)|(go_at_call 158;(with_reducible refine (cs.out _ hF).mono ?_);rintro _ v1 ⟨rfl,e1⟩;have hF:=hF.trans e1 zr;have c4:=e1.cell c4 zq;have c9:=e1.cell c9 zq;have ab:=e1.cell ab zq;have aa:=e1.cell aa zq)|(go_at_call 160;(with_reducible refine (cn.out _ hF).mono ?_);rintro _ v2 ⟨rfl,e2⟩;have hF:=hF.trans e2 zr;have c9:=e2.cell c9 zq;have ab:=e2.cell ab zq;have aa:=e2.cell aa zq)|(go_at_call 161;(with_reducible refine (cp.out _ hF).mono ?_);rintro _ v3 ⟨rfl,e3⟩;have hF:=hF.trans e3 zr;have ab:=e3.cell ab zq;have aa:=e3.cell aa zq)|(go_at_call 153;(with_reducible refine (cu.out _ hF).mono ?_);rintro _ v4 ⟨rfl,e4⟩;have hF:=hF.trans e4 zr;have aa:=e4.cell aa zq)|(go_at_call 162;(with_reducible refine (ct.out _ hF).mono ?_);rintro _ v5 ⟨rfl,e5⟩;have hF:=hF.trans e5 zr))
    go_ret
    exact ⟨congrArg (fun z=>Ending.returned (.bool z)) hv.out,hF⟩
   cases g2
   ·
    have hv:Hid (false=LB):=ac.out.symm;clear ac;go_wp2_with (first|(go_at_call 157;(with_reducible refine (cr.out _ hF).mono ?_);rintro _ v0 ⟨rfl,e0⟩;have hF:=hF.trans e0 zr;have bb:=e0.cell bb zq;have c4:=e0.cell c4 zq;have c9:=e0.cell c9 zq;have ab:=e0.cell ab zq;have aa:=e0.cell aa zq)|(go_at_call 158;(with_reducible refine (cs.out _ hF).mono ?_);rintro _ v1 ⟨rfl,e1⟩;have hF:=hF.trans e1 zr;have c4:=e1.cell c4 zq;have c9:=e1.cell c9 zq;have ab:=e1.cell ab zq;have aa:=e1.cell aa zq)|(go_at_call 160;(with_reducible refine (cn.out _ hF).mono ?_);rintro _ v2 ⟨rfl,e2⟩;have hF:=hF.trans e2 zr;have c9:=e2.cell c9 zq;have ab:=e2.cell ab zq;have aa:=e2.cell aa zq)|(go_at_call 161;(with_reducible refine (cp.out _ hF).mono ?_);rintro _ v3 ⟨rfl,e3⟩;have hF:=hF.trans e3 zr;have ab:=e3.cell ab zq;have aa:=e3.cell aa zq)|(go_at_call 153;(with_reducible refine (cu.out _ hF).mono ?_);rintro _ v4 ⟨rfl,e4⟩;have hF:=hF.trans e4 zr;have aa:=e4.cell aa zq)|(go_at_call 162;(with_reducible refine (ct.out _ hF).mono ?_);rintro _ v5 ⟨rfl,e5⟩;have hF:=hF.trans e5 zr))
    go_ret
    exact ⟨congrArg (fun z=>Ending.returned (.bool z)) hv.out,hF⟩
   cases g3
   ·
    have hv:Hid (false=LB):=ac.out.symm;clear ac;go_wp2_with (first|(go_at_call 157;(with_reducible refine (cr.out _ hF).mono ?_);rintro _ v0 ⟨rfl,e0⟩;have hF:=hF.trans e0 zr;have bb:=e0.cell bb zq;have c4:=e0.cell c4 zq;have c9:=e0.cell c9 zq;have ab:=e0.cell ab zq;have aa:=e0.cell aa zq)|(go_at_call 158;(with_reducible refine (cs.out _ hF).mono ?_);rintro _ v1 ⟨rfl,e1⟩;have hF:=hF.trans e1 zr;have c4:=e1.cell c4 zq;have c9:=e1.cell c9 zq;have ab:=e1.cell ab zq;have aa:=e1.cell aa zq)|(go_at_call 160;(with_reducible refine (cn.out _ hF).mono ?_);rintro _ v2 ⟨rfl,e2⟩;have hF:=hF.trans e2 zr;have c9:=e2.cell c9 zq;have ab:=e2.cell ab zq;have aa:=e2.cell aa zq)|(go_at_call 161;(with_reducible refine (cp.out _ hF).mono ?_);rintro _ v3 ⟨rfl,e3⟩;have hF:=hF.trans e3 zr;have ab:=e3.cell ab zq;have aa:=e3.cell aa zq)|(go_at_call 153;(with_reducible refine (cu.out _ hF).mono ?_);rintro _ v4 ⟨rfl,e4⟩;have hF:=hF.trans e4 zr;have aa:=e4.cell aa zq)|(go_at_call 162;(with_reducible refine (ct.out _ hF).mono ?_);rintro _ v5 ⟨rfl,e5⟩;have hF:=hF.trans e5 zr))
    go_ret
    exact ⟨congrArg (fun z=>Ending.returned (.bool z)) hv.out,hF⟩
   cases g4
   ·
    have hv:Hid (false=LB):=ac.out.symm;clear ac;go_wp2_with (first|(go_at_call 157;(with_reducible refine (cr.out _ hF).mono ?_);rintro _ v0 ⟨rfl,e0⟩;have hF:=hF.trans e0 zr;have bb:=e0.cell bb zq;have c4:=e0.cell c4 zq;have c9:=e0.cell c9 zq;have ab:=e0.cell ab zq;have aa:=e0.cell aa zq)|(go_at_call 158;(with_reducible refine (cs.out _ hF).mono ?_);rintro _ v1 ⟨rfl,e1⟩;have hF:=hF.trans e1 zr;have c4:=e1.cell c4 zq;have c9:=e1.cell c9 zq;have ab:=e1.cell ab zq;have aa:=e1.cell aa zq)|(go_at_call 160;(with_reducible refine (cn.out _ hF).mono ?_);rintro _ v2 ⟨rfl,e2⟩;have hF:=hF.trans e2 zr;have c9:=e2.cell c9 zq;have ab:=e2.cell ab zq;have aa:=e2.cell aa zq)|(go_at_call 161;(with_reducible refine (cp.out _ hF).mono ?_);rintro _ v3 ⟨rfl,e3⟩;have hF:=hF.trans e3 zr;have ab:=e3.cell ab zq;have aa:=e3.cell aa zq)|(go_at_call 153;(with_reducible refine (cu.out _ hF).mono ?_);rintro _ v4 ⟨rfl,e4⟩;have hF:=hF.trans e4 zr;have aa:=e4.cell aa zq)|(go_at_call 162;(with_reducible refine (ct.out _ hF).mono ?_);rintro _ v5 ⟨rfl,e5⟩;have hF:=hF.trans e5 zr))
    go_ret
    exact ⟨congrArg (fun z=>Ending.returned (.bool z)) hv.out,hF⟩
   cases g5
   ·
    have hv:Hid (false=LB):=ac.out.symm;clear ac;go_wp2_with (first|(go_at_call 157;(with_reducible refine (cr.out _ hF).mono ?_);rintro _ v0 ⟨rfl,e0⟩;have hF:=hF.trans e0 zr;have bb:=e0.cell bb zq;have c4:=e0.cell c4 zq;have c9:=e0.cell c9 zq;have ab:=e0.cell ab zq;have aa:=e0.cell aa zq)|(go_at_call 158;(with_reducible refine (cs.out _ hF).mono ?_);rintro _ v1 ⟨rfl,e1⟩;have hF:=hF.trans e1 zr;have c4:=e1.cell c4 zq;have c9:=e1.cell c9 zq;have ab:=e1.cell ab zq;have aa:=e1.cell aa zq)|(go_at_call 160;(with_reducible refine (cn.out _ hF).mono ?_);rintro _ v2 ⟨rfl,e2⟩;have hF:=hF.trans e2 zr;have c9:=e2.cell c9 zq;have ab:=e2.cell ab zq;have aa:=e2.cell aa zq)|(go_at_call 161;(with_reducible refine (cp.out _ hF).mono ?_);rintro _ v3 ⟨rfl,e3⟩;have hF:=hF.trans e3 zr;have ab:=e3.cell ab zq;have aa:=e3.cell aa zq)|(go_at_call 153;(with_reducible refine (cu.out _ hF).mono ?_);rintro _ v4 ⟨rfl,e4⟩;have hF:=hF.trans e4 zr;have aa:=e4.cell aa zq)|(go_at_call 162;(with_reducible refine (ct.out _ hF).mono ?_);rintro _ v5 ⟨rfl,e5⟩;have hF:=hF.trans e5 zr))
    go_ret
    exact ⟨congrArg (fun z=>Ending.returned (.bool z)) hv.out,hF⟩
   have hv:Hid (g6=LB):=ac.out.symm;clear ac;go_wp2_with (first|(go_at_call 157;(with_reducible refine (cr.out _ hF).mono ?_);rintro _ v0 ⟨rfl,e0⟩;have hF:=hF.trans e0 zr;have bb:=e0.cell bb zq;have c4:=e0.cell c4 zq;have c9:=e0.cell c9 zq;have ab:=e0.cell ab zq;have aa:=e0.cell aa zq)|(go_at_call 158;(with_reducible refine (cs.out _ hF).mono ?_);rintro _ v1 ⟨rfl,e1⟩;have hF:=hF.trans e1 zr;have c4:=e1.cell c4 zq;have c9:=e1.cell c9 zq;have ab:=e1.cell ab zq;have aa:=e1.cell aa zq)|(go_at_call 160;(with_reducible refine (cn.out _ hF).mono ?_);rintro _ v2 ⟨rfl,e2⟩;have hF:=hF.trans e2 zr;have c9:=e2.cell c9 zq;have ab:=e2.cell ab zq;have aa:=e2.cell aa zq)|(go_at_call 161;(with_reducible refine (cp.out _ hF).mono ?_);rintro _ v3 ⟨rfl,e3⟩;have hF:=hF.trans e3 zr;have ab:=e3.cell ab zq;have aa:=e3.cell aa zq)|(go_at_call 153;(with_reducible refine (cu.out _ hF).mono ?_);rintro _ v4 ⟨rfl,e4⟩;have hF:=hF.trans e4 zr;have aa:=e4.cell aa zq)|(go_at_call 162;(with_reducible refine (ct.out _ hF).mono ?_);rintro _ v5 ⟨rfl,e5⟩;have hF:=hF.trans e5 zr))
   go_ret
   exact ⟨congrArg (fun z=>Ending.returned (.bool z)) hv.out,hF⟩
  ·
   intro k v w3 e7 hv fo d6 fa ey fu ft;clear cr cs cn cp cu ct c4 c9 bb cb ab aa;obtain ⟨c,rfl,fd⟩:=cc.entry hv;obtain ⟨y,fb,fe⟩:=Option.map_eq_some_iff.1 fd;have fi:=List.find?_some fb;obtain ⟨j,hj,hk,fg⟩:=Xi x y (List.mem_of_find?_eq_some fb);obtain rfl:y.2.1=k:=by simpa using fi
   rw [hk] at fo d6 ft ⊢;have hc:x.mayB j=c:=by rw [← fg,fe]
   have fh:Fr (fun k=>some w1.heap.size=some k) wr w3:=Fr.grown (Fr.refl _ _) ey (fun k hk _=>hk);have fl:Fr Non w w3:=hF.trans fh (fun i hi e=>by cases e;have:=ew;omega);have e9:Fr (fun k=>w1.heap.size≤k) w2 w3:=d5.trans fh (fun i hi e=>by cases e;exact Nat.le_refl _);have fs:w3.rangeLeft b w1.heap.size<wr.rangeLeft b w1.heap.size:=by rw [d6.left_eq,d7.left_eq];exact fa
   have fj:=Wh has j hhas hj;have fx:(bits .and .i64 (has:Int) ((2^j:Nat):Int) !=0)=has.testBit j:=by rw [bne,← Bool.not_not (has.testBit j),← fj];rfl
   have en:=Lib.hid (RA.step (x:=x) (has:=has) (j:=j) eu hj);have e6:=Lib.hid (fun h1 h2=>Xk (x:=x) (has:=has) hj h1 h2);generalize hpj:((2^j:Nat):Int)=pj at*;clear hv fd fb fe fi hk fg d7 fj cc;generalize htb:has.testBit j=tb at*;generalize x.mayB j=mj at*;subst hc
   cases tb<;>cases mj
   case true.false=>
    have hv:Hid (false=LB):=by show _=_;rw [ac.out,e6.out rfl rfl];rfl
    clear ac e6 en;go_wp2_with (fail)
    go_ret
    exact ⟨congrArg (fun z=>Ending.returned (.bool z)) hv.out,fl⟩
   all_goals
    clear e6 ac;go_wp2_with (fail);exact ⟨⟨_,e7,d6,en.out (by decide),fl,e9⟩,fs⟩
end Oq
end
section
open Go.RowKit
attribute [local go_sem ↓] Go.wp_at_zero Go.wp_at_succ
namespace Oq
attribute [local go_sem] Bool.not_false Bool.not_true
end Oq
end
end Go.Proofs.YtkanjaikgphjfaaGreatDoor
