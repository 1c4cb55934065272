/-
  Contracts of the functions that the claim's statement reaches, walked one by one (part 9).
  Conditions: as each theorem says.
-/
import Derived.Deep.CutBlock
import Derived.Deep.Cut
import Derived.Test.YtkanjaikgphjfaaGreatDoorFkN2
import Derived.Test.YtkanjaikgphjfaaGreatDoorFkN4
import Derived.Test.YtkanjaikgphjfaaGreatDoorFkN8
set_option maxRecDepth 100000
set_option maxHeartbeats 16000000
namespace Go.Proofs.YtkanjaikgphjfaaGreatDoor
section
open Go.RowKit Go.Maps
attribute [local go_sem ↓] Go.wp_at_zero Go.wp_at_succ
namespace Oq
attribute [local go_sem] Bool.not_false Bool.not_true
def OpL.ls (x:OpL):Int:=if x.kind=3 then 0 else 1
def OpL.nd (x:OpL):Int:=if x.kind=1 then 0 else 1
def OpL.mo (x:OpL):Int:=if x.kind=1 then 20 else (x.guards.length:Int)
def OpL.mb (x:OpL):Bool:=if x.kind=3 then ((inR x.mem 1 8&&x.dev==0)||(x.mem==0&&x.dev !=0)) else inR x.mem 1 8
def OpL.mayB (x:OpL) (j:Nat):Bool:=match j with
 |0=>inR x.dev x.ls 12
 |1=>inR x.old 1 12
 |2=>x.mb
 |3=>inR x.role 1 3
 |5=>x.epoch.named
 |6=>inR x.n 0 2147483647
 |9=>x.of.named
 |11=>inR x.need x.nd x.mo
 |12=>inR x.wait 0 2147483647
 |14=>B0 x.pub
 |_=>true
def OpL.itemsL (x:OpL):Bool:=x.guards.all (fun n=>inR n 1 12)&&(x.refs.all fOk&&(x.past.all Id.named&&(x.path.all (fun y=>B0 y.p&&y.xs.all Bx.may)&&(x.boxes.all Bx.may&&x.hist.all (fun y=>y.f.named)))))
def OpL.loopB (x:OpL) (has:Nat):Bool:=(List.range 16).all (fun j=> !has.testBit j||x.mayB j)
def OpL.rngB (x:OpL) (has:Nat):Bool:=inR x.by_ 1 12&&(inR x.sq 1 2147483647&&(inR x.at_ 0 2147483647&&(x.loopB has&&x.itemsL)))
def RA (x:OpL) (has:Nat) (left:Lit→Bool):Prop:=∀j,j<16→left (.int .i64 ((2^j:Nat):Int))=false→has.testBit j=true→x.mayB j=true
def mayIns:List (Nat × Int × Nat):=[(5,(1:Int),62),(9,(2:Int),65),(11,(4:Int),66),(15,(8:Int),69),(19,(64:Int),72),(23,(4096:Int),75),(29,(2048:Int),80),(33,(32:Int),83),(37,(512:Int),86),(41,(16384:Int),89)]
def Rb (x:OpL) (t:Nat):Bool:=match t with
 |62=>x.mayB 0
 |65=>x.mayB 1
 |66=>x.mayB 2
 |69=>x.mayB 3
 |72=>x.mayB 6
 |75=>x.mayB 12
 |80=>x.mayB 11
 |83=>x.mayB 5
 |86=>x.mayB 9
 |89=>x.mayB 14
 |_=>false
def mayCv (x:OpL) (t:Nat):Bool:=match t with
 |4=>x.mayB 0
 |8=>x.mayB 1
 |14=>x.mayB 3
 |18=>x.mayB 6
 |22=>x.mayB 12
 |28=>x.mayB 11
 |32=>x.mayB 5
 |36=>x.mayB 9
 |40=>x.mayB 14
 |_=>false
theorem Zd (x:OpL):∀y∈mayIns,∃j,j<16∧y.2.1=((2^j:Nat):Int)∧Rb x y.2.2=x.mayB j:=by
 unfold mayIns;refine List.forall_mem_cons.2 ⟨⟨0,by decide,rfl,rfl⟩,?_⟩;refine List.forall_mem_cons.2 ⟨⟨1,by decide,rfl,rfl⟩,?_⟩;refine List.forall_mem_cons.2 ⟨⟨2,by decide,rfl,rfl⟩,?_⟩;refine List.forall_mem_cons.2 ⟨⟨3,by decide,rfl,rfl⟩,?_⟩;refine List.forall_mem_cons.2 ⟨⟨6,by decide,rfl,rfl⟩,?_⟩;refine List.forall_mem_cons.2 ⟨⟨12,by decide,rfl,rfl⟩,?_⟩;refine List.forall_mem_cons.2 ⟨⟨11,by decide,rfl,rfl⟩,?_⟩;refine List.forall_mem_cons.2 ⟨⟨5,by decide,rfl,rfl⟩,?_⟩;refine List.forall_mem_cons.2 ⟨⟨9,by decide,rfl,rfl⟩,?_⟩;refine List.forall_mem_cons.2 ⟨⟨14,by decide,rfl,rfl⟩,?_⟩;exact fun y hy=>absurd hy (by simp)
theorem Ze:∀j,j<16→(mayIns.find? (fun y=>y.2.1==((2^j:Nat):Int))).isSome=false→j=4∨j=7∨j=8∨j=10∨j=13∨j=15:=by decide
theorem RA.start {x:OpL} {has:Nat} {left:Lit→Bool} (h:∀j,j<16→left (.int .i64 ((2^j:Nat):Int))=(mayIns.find? (fun y=>y.2.1==((2^j:Nat):Int))).isSome):RA x has left:=by
 intro j hj hl _;rw [h j hj] at hl
 rcases Ze j hj hl with rfl|rfl|rfl|rfl|rfl|rfl<;>rfl
theorem RA.step {x:OpL} {has j:Nat} {left:Lit→Bool} (h:RA x has left) (hj:j<16) (hb:has.testBit j=true→x.mayB j=true):RA x has (fun z=>left z&& !z.sameKey (.int .i64 ((2^j:Nat):Int))):=by
 intro i hi hl hbi
 by_cases hij:i=j
 ·
  subst hij;exact hb hbi
 ·
  replace hl:(left (.int .i64 ((2^i:Nat):Int))&& !(Lit.int .i64 ((2^i:Nat):Int)).sameKey (.int .i64 ((2^j:Nat):Int)))=false:=hl;rw [Q6 hij] at hl;exact h i hi (by simpa using hl) hbi
theorem RA.done {x:OpL} {has:Nat} {left:Lit→Bool} (h:RA x has left) (hl:∀kl,left kl=false):x.loopB has=true:=by
 unfold OpL.loopB;rw [List.all_eq_true];intro j hj;have hj':j<16:=by simpa using hj
 cases hb:has.testBit j with
 |false=>rfl
 |true=>rw [h j hj' (hl _) hb];rfl
theorem Zf {x:OpL} {has j:Nat} (hj:j<16) (hb:has.testBit j=true) (hm:x.mayB j=false):x.loopB has=false:=by
 unfold OpL.loopB;rw [List.all_eq_false];exact ⟨j,by simpa using hj,by rw [hb,hm];decide⟩
theorem Zg (x:OpL) (has:Nat) (hhas:has<65536) (w:World) (hat:x.at w w.heap.size) (hok:x.op.ok):Calls Tryz.prog 106 #[.agg x.cells,.int .i64 (has:Int)] w (Ad (x.rngB has) w):=by
 have ba:=Blk.new w 67 x.cells;have f0:Fr Non w (w.alloc (.cells x.cells 67)):=(Fr.refl Non w).alloc _;have c0:(w.alloc (.cells x.cells 67)).cell? ⟨w.heap.size,0,none⟩=some (.int .i64 x.by_):=ba.cell 0;have c1:(w.alloc (.cells x.cells 67)).cell? ⟨w.heap.size,1,none⟩=some (.int .i64 x.sq):=ba.cell 1;have c2:(w.alloc (.cells x.cells 67)).cell? ⟨w.heap.size,2,none⟩=some (.int .i64 x.kind):=ba.cell 2;have c3:(w.alloc (.cells x.cells 67)).cell? ⟨w.heap.size,3,none⟩=some (.int .i64 x.at_):=ba.cell 3;have c4:(w.alloc (.cells x.cells 67)).cell? ⟨w.heap.size,4,none⟩=some (.slice x.pastA x.past.length x.pastC):=ba.cell 4;have c5:(w.alloc (.cells x.cells 67)).cell? ⟨w.heap.size,5,none⟩=some (.int .i64 x.dev):=ba.cell 5;have c6:(w.alloc (.cells x.cells 67)).cell? ⟨w.heap.size,6,none⟩=some (.int .i64 x.old):=ba.cell 6;have c7:(w.alloc (.cells x.cells 67)).cell? ⟨w.heap.size,7,none⟩=some (.int .i64 x.mem):=ba.cell 7;have c8:(w.alloc (.cells x.cells 67)).cell? ⟨w.heap.size,8,none⟩=some (.int .i64 x.role):=ba.cell 8;have c9:(w.alloc (.cells x.cells 67)).cell? ⟨w.heap.size,9,none⟩=some (.slice x.pathA x.path.length x.pathC):=ba.cell 9;have dw:(w.alloc (.cells x.cells 67)).cell? ⟨w.heap.size,10,none⟩=some (.int .i64 x.epoch.b):=ba.cell 10;have d3:(w.alloc (.cells x.cells 67)).cell? ⟨w.heap.size,11,none⟩=some (.int .i64 x.epoch.s):=ba.cell 11;have df:(w.alloc (.cells x.cells 67)).cell? ⟨w.heap.size,12,none⟩=some (.int .u64 (x.epoch.u:Int)):=ba.cell 12;have dg:(w.alloc (.cells x.cells 67)).cell? ⟨w.heap.size,13,none⟩=some (.int .i64 x.n):=ba.cell 13;have bb:(w.alloc (.cells x.cells 67)).cell? ⟨w.heap.size,15,none⟩=some (.slice x.refsA x.refs.length x.refsC):=ba.cell 15;have cz:(w.alloc (.cells x.cells 67)).cell? ⟨w.heap.size,16,none⟩=some (.int .i64 x.of.b):=ba.cell 16;have db:(w.alloc (.cells x.cells 67)).cell? ⟨w.heap.size,17,none⟩=some (.int .i64 x.of.s):=ba.cell 17;have dr:(w.alloc (.cells x.cells 67)).cell? ⟨w.heap.size,18,none⟩=some (.int .u64 (x.of.u:Int)):=ba.cell 18;have ca:(w.alloc (.cells x.cells 67)).cell? ⟨w.heap.size,19,none⟩=some (.slice x.guardsA x.guards.length x.guardsC):=ba.cell 19;have dl:(w.alloc (.cells x.cells 67)).cell? ⟨w.heap.size,20,none⟩=some (.int .i64 x.need):=ba.cell 20;have dh:(w.alloc (.cells x.cells 67)).cell? ⟨w.heap.size,21,none⟩=some (.int .i64 x.wait):=ba.cell 21;have ab:(w.alloc (.cells x.cells 67)).cell? ⟨w.heap.size,22,none⟩=some (.slice x.boxesA x.boxes.length x.boxesC):=ba.cell 22;have du:(w.alloc (.cells x.cells 67)).cell? ⟨w.heap.size,23,none⟩=some (.int .u64 (x.pub:Int)):=ba.cell 23;have aa:(w.alloc (.cells x.cells 67)).cell? ⟨w.heap.size,24,none⟩=some (.slice x.histA x.hist.length x.histC):=ba.cell 24;have cb:x.guards.length≤1000000:=by have h:=hok.guards.1;rw [show x.op.guards=x.guards from rfl] at h;omega
 have da:x.refs.length≤1000000:=by have h:=hok.refs.1;rw [show x.op.refs=x.refs from rfl] at h;omega
 have ce:x.boxes.length≤1000000:=by have h:=hok.boxes.1;rw [show x.op.boxes=x.boxes from rfl] at h;omega
 have ci:∀y∈x.path,y.xs.length≤1000000:=fun y hy=>by have h:=(hok.path.2 y.nd (List.mem_map.2 ⟨y,hy,rfl⟩)).2.1;rw [show y.nd.xs=y.xs from rfl] at h;omega
 have dt:x.past.length≤1000000:=by have h:=hok.past.1;rw [show x.op.past=x.past from rfl] at h;omega
 have dn:x.path.length≤1000000:=by have h:=hok.path.1;rw [show x.op.path=x.path.map NdL.nd from rfl,List.length_map] at h;omega
 have cy:x.hist.length≤1000000:=by have h:=hok.hist.1;rw [show x.op.hist=x.hist.map SlL.sl from rfl,List.length_map] at h;omega
 have di:=Lib.hid (fun w'=>Da x.by_ 1 12 w');have ds:=Lib.hid (fun w'=>Da x.sq 1 2147483647 w');have dc:=Lib.hid (fun w'=>Da x.at_ 0 2147483647 w');have km:=Lib.hid (fun w'=>Da x.mem 1 8 w');have ct:=Lib.hid (fun (w':World) (h:Fr Non w w')=>Yk w.heap.size x.guards.length x.guardsC x.guardsA x.guards (fun n=>inR n 1 12) w' rfl (hat.guards.1.fr h zr) cb (fun y _ ad _=>Y8 y ad));have cn:=Lib.hid (fun (w':World) (h:Fr Non w w')=>Yn w.heap.size x.refs.length x.refsC x.refsA x.refs fOk w' rfl (hat.refs.1.fr h zr) da (fun y _ ad _=>Ja y ad));have cu:=Lib.hid (fun (w':World) (h:Fr Non w w')=>Yq w.heap.size x.past.length x.pastC x.pastA x.past Id.named w' rfl (hat.past.1.fr h zr) dt (fun y _ ad _=>Jc y ad));have cr:=Lib.hid (fun (w':World) (h:Fr Non w w')=>Yv w.heap.size x.path.length x.pathC x.pathA x.path (fun y=>B0 y.p&&y.xs.all Bx.may) w' rfl (hat.path.1.fr h zr) dn (fun y hy ad h'=>Zc w.heap.size y ad ((hat.nodes y hy).fr (h.trans h' zr) zr) (ci y hy)));have cq:=Lib.hid (fun (w':World) (h:Fr Non w w')=>Q9 w.heap.size x.boxes.length x.boxesC x.boxesA x.boxes Bx.may w' rfl (hat.boxes.1.fr h zr) ce (fun y _ ad _=>Ra y ad));have cm:=Lib.hid (fun (w':World) (h:Fr Non w w')=>Y4 w.heap.size x.hist.length x.histC x.histA x.hist (fun y=>y.f.named) w' rfl (hat.hist.1.fr h zr) cy (fun y _ ad _=>Y9 y ad));have ac:Hid (x.rngB has=(inR x.by_ 1 12&&(inR x.sq 1 2147483647&&(inR x.at_ 0 2147483647&&(x.loopB has&&(x.guards.all (fun n=>inR n 1 12)&&(x.refs.all fOk&&(x.past.all Id.named&&(x.path.all (fun y=>B0 y.p&&y.xs.all Bx.may)&&(x.boxes.all Bx.may&&x.hist.all (fun y=>y.f.named))))))))))):=rfl;generalize x.rngB has=LB at*;generalize inR x.by_ 1 12=b1 at*;generalize inR x.sq 1 2147483647=b2 at*;generalize inR x.at_ 0 2147483647=b3 at*;generalize (x.guards.all (fun n=>inR n 1 12))=g1 at*;generalize (x.refs.all fOk)=g2 at*;generalize (x.past.all Id.named)=g3 at*;generalize (x.path.all (fun y=>B0 y.p&&y.xs.all Bx.may))=g4 at*;generalize (x.boxes.all Bx.may)=g5 at*;generalize (x.hist.all (fun y=>y.f.named))=g6 at*;generalize x.cells=CS at*;clear ba hat hok dt dn cy cb da ci ce
 cases b1
 ·
  have hv:Hid (false=LB):=by show _=_;rw [ac.out];rfl
  clear ac;go_enter Tryz.func106,Tryz.ntmps106;go_wp2_with (first
  |(go_at_call 149;(with_reducible refine (di.out _).mono ?_);rintro _ v1 ⟨rfl,f1⟩;have dv:=f0.trans f1 zr;clear di;have co:=f1.cell c1 zq;have bc:=f1.cell c2 zq;have bn:=f1.cell c3 zq;have br:=f1.cell c4 zq;have bv:=f1.cell c5 zq;have bi:=f1.cell c6 zq;have bm:=f1.cell c7 zq;have bo:=f1.cell c8 zq;have bt:=f1.cell c9 zq;have a0:=f1.cell dw zq;have aw:=f1.cell d3 zq;have ay:=f1.cell df zq;have a5:=f1.cell dg zq;have af:=f1.cell bb zq;have ax:=f1.cell cz zq;have a4:=f1.cell db zq;have a3:=f1.cell dr zq;have ai:=f1.cell ca zq;have au:=f1.cell dl zq;have aj:=f1.cell dh zq;have ao:=f1.cell ab zq;have ar:=f1.cell du zq;have a6:=f1.cell aa zq)
  |(go_at_call 149;(with_reducible refine (ds.out _).mono ?_);rintro _ v2 ⟨rfl,f2⟩;have dk:=dv.trans f2 zr;clear ds;have bk:=f2.cell bc zq;have cs:=f2.cell bn zq;have bw:=f2.cell br zq;have b0:=f2.cell bv zq;have bj:=f2.cell bi zq;have b7:=f2.cell bm zq;have bl:=f2.cell bo zq;have bz:=f2.cell bt zq;have a9:=f2.cell a0 zq;have ap:=f2.cell aw zq;have aq:=f2.cell ay zq;have a2:=f2.cell a5 zq;have ak:=f2.cell af zq;have av:=f2.cell ax zq;have a7:=f2.cell a4 zq;have az:=f2.cell a3 zq;have a1:=f2.cell ai zq;have ag:=f2.cell au zq;have ah:=f2.cell aj zq;have ae:=f2.cell ao zq;have al:=f2.cell ar zq;have a8:=f2.cell a6 zq)
  |(go_at_call 149;(with_reducible refine (dc.out _).mono ?_);rintro _ v3 ⟨rfl,f3⟩;have es:=dk.trans f3 zr;clear dc;have cl:=f3.cell bk zq;have ch:=f3.cell bw zq;have cf:=f3.cell b0 zq;have cd:=f3.cell bj zq;have cj:=f3.cell b7 zq;have cg:=f3.cell bl zq;have ck:=f3.cell bz zq;have b5:=f3.cell a9 zq;have bu:=f3.cell ap zq;have bp:=f3.cell aq zq;have bx:=f3.cell a2 zq;have be:=f3.cell ak zq;have bd:=f3.cell av zq;have b8:=f3.cell a7 zq;have b4:=f3.cell az zq;have bf:=f3.cell a1 zq;have bh:=f3.cell ag zq;have bq:=f3.cell ah zq;have bg:=f3.cell ae zq;have b6:=f3.cell al zq;have bs:=f3.cell a8 zq))
  go_ret
  exact ⟨congrArg (fun z=>Ending.returned (.bool z)) hv.out,dv⟩
 cases b2
 ·
  have hv:Hid (false=LB):=by show _=_;rw [ac.out];rfl
  clear ac;go_enter Tryz.func106,Tryz.ntmps106;go_wp2_with (first
  |(go_at_call 149;(with_reducible refine (di.out _).mono ?_);rintro _ v1 ⟨rfl,f1⟩;have dv:=f0.trans f1 zr;clear di;have co:=f1.cell c1 zq;have bc:=f1.cell c2 zq;have bn:=f1.cell c3 zq;have br:=f1.cell c4 zq;have bv:=f1.cell c5 zq;have bi:=f1.cell c6 zq;have bm:=f1.cell c7 zq;have bo:=f1.cell c8 zq;have bt:=f1.cell c9 zq;have a0:=f1.cell dw zq;have aw:=f1.cell d3 zq;have ay:=f1.cell df zq;have a5:=f1.cell dg zq;have af:=f1.cell bb zq;have ax:=f1.cell cz zq;have a4:=f1.cell db zq;have a3:=f1.cell dr zq;have ai:=f1.cell ca zq;have au:=f1.cell dl zq;have aj:=f1.cell dh zq;have ao:=f1.cell ab zq;have ar:=f1.cell du zq;have a6:=f1.cell aa zq)
  |(go_at_call 149;(with_reducible refine (ds.out _).mono ?_);rintro _ v2 ⟨rfl,f2⟩;have dk:=dv.trans f2 zr;clear ds;have bk:=f2.cell bc zq;have cs:=f2.cell bn zq;have bw:=f2.cell br zq;have b0:=f2.cell bv zq;have bj:=f2.cell bi zq;have b7:=f2.cell bm zq;have bl:=f2.cell bo zq;have bz:=f2.cell bt zq;have a9:=f2.cell a0 zq;have ap:=f2.cell aw zq;have aq:=f2.cell ay zq;have a2:=f2.cell a5 zq;have ak:=f2.cell af zq;have av:=f2.cell ax zq;have a7:=f2.cell a4 zq;have az:=f2.cell a3 zq;have a1:=f2.cell ai zq;have ag:=f2.cell au zq;have ah:=f2.cell aj zq;have ae:=f2.cell ao zq;have al:=f2.cell ar zq;have a8:=f2.cell a6 zq)
  |(go_at_call 149;(with_reducible refine (dc.out _).mono ?_);rintro _ v3 ⟨rfl,f3⟩;have es:=dk.trans f3 zr;clear dc;have cl:=f3.cell bk zq;have ch:=f3.cell bw zq;have cf:=f3.cell b0 zq;have cd:=f3.cell bj zq;have cj:=f3.cell b7 zq;have cg:=f3.cell bl zq;have ck:=f3.cell bz zq;have b5:=f3.cell a9 zq;have bu:=f3.cell ap zq;have bp:=f3.cell aq zq;have bx:=f3.cell a2 zq;have be:=f3.cell ak zq;have bd:=f3.cell av zq;have b8:=f3.cell a7 zq;have b4:=f3.cell az zq;have bf:=f3.cell a1 zq;have bh:=f3.cell ag zq;have bq:=f3.cell ah zq;have bg:=f3.cell ae zq;have b6:=f3.cell al zq;have bs:=f3.cell a8 zq))
  go_ret
  exact ⟨congrArg (fun z=>Ending.returned (.bool z)) hv.out,dk⟩
 cases b3
 ·
  have hv:Hid (false=LB):=by show _=_;rw [ac.out];rfl
  clear ac;go_enter Tryz.func106,Tryz.ntmps106;go_wp2_with (first
  |(go_at_call 149;(with_reducible refine (di.out _).mono ?_);rintro _ v1 ⟨rfl,f1⟩;have dv:=f0.trans f1 zr;clear di;have co:=f1.cell c1 zq;have bc:=f1.cell c2 zq;have bn:=f1.cell c3 zq;have br:=f1.cell c4 zq;have bv:=f1.cell c5 zq;have bi:=f1.cell c6 zq;have bm:=f1.cell c7 zq;have bo:=f1.cell c8 zq;have bt:=f1.cell c9 zq;have a0:=f1.cell dw zq;have aw:=f1.cell d3 zq;have ay:=f1.cell df zq;have a5:=f1.cell dg zq;have af:=f1.cell bb zq;have ax:=f1.cell cz zq;have a4:=f1.cell db zq;have a3:=f1.cell dr zq;have ai:=f1.cell ca zq;have au:=f1.cell dl zq;have aj:=f1.cell dh zq;have ao:=f1.cell ab zq;have ar:=f1.cell du zq;have a6:=f1.cell aa zq)
  |(go_at_call 149;(with_reducible refine (ds.out _).mono ?_);rintro _ v2 ⟨rfl,f2⟩;have dk:=dv.trans f2 zr;clear ds;have bk:=f2.cell bc zq;have cs:=f2.cell bn zq;have bw:=f2.cell br zq;have b0:=f2.cell bv zq;have bj:=f2.cell bi zq;have b7:=f2.cell bm zq;have bl:=f2.cell bo zq;have bz:=f2.cell bt zq;have a9:=f2.cell a0 zq;have ap:=f2.cell aw zq;have aq:=f2.cell ay zq;have a2:=f2.cell a5 zq;have ak:=f2.cell af zq;have av:=f2.cell ax zq;have a7:=f2.cell a4 zq;have az:=f2.cell a3 zq;have a1:=f2.cell ai zq;have ag:=f2.cell au zq;have ah:=f2.cell aj zq;have ae:=f2.cell ao zq;have al:=f2.cell ar zq;have a8:=f2.cell a6 zq)
  |(go_at_call 149;(with_reducible refine (dc.out _).mono ?_);rintro _ v3 ⟨rfl,f3⟩;have es:=dk.trans f3 zr;clear dc;have cl:=f3.cell bk zq;have ch:=f3.cell bw zq;have cf:=f3.cell b0 zq;have cd:=f3.cell bj zq;have cj:=f3.cell b7 zq;have cg:=f3.cell bl zq;have ck:=f3.cell bz zq;have b5:=f3.cell a9 zq;have bu:=f3.cell ap zq;have bp:=f3.cell aq zq;have bx:=f3.cell a2 zq;have be:=f3.cell ak zq;have bd:=f3.cell av zq;have b8:=f3.cell a7 zq;have b4:=f3.cell az zq;have bf:=f3.cell a1 zq;have bh:=f3.cell ag zq;have bq:=f3.cell ah zq;have bg:=f3.cell ae zq;have b6:=f3.cell al zq;have bs:=f3.cell a8 zq))
  go_ret
  exact ⟨congrArg (fun z=>Ending.returned (.bool z)) hv.out,es⟩
 replace ac:Hid (LB=(x.loopB has&&(g1&&(g2&&(g3&&(g4&&(g5&&g6))))))):=ac;go_enter Tryz.func106,Tryz.ntmps106
 go_wp2_with (first
  |(go_at_call 149;(with_reducible refine (di.out _).mono ?_);rintro _ v1 ⟨rfl,f1⟩;have dv:=f0.trans f1 zr;clear di;have co:=f1.cell c1 zq;have bc:=f1.cell c2 zq;have bn:=f1.cell c3 zq;have br:=f1.cell c4 zq;have bv:=f1.cell c5 zq;have bi:=f1.cell c6 zq;have bm:=f1.cell c7 zq;have bo:=f1.cell c8 zq;have bt:=f1.cell c9 zq;have a0:=f1.cell dw zq;have aw:=f1.cell d3 zq;have ay:=f1.cell df zq;have a5:=f1.cell dg zq;have af:=f1.cell bb zq;have ax:=f1.cell cz zq;have a4:=f1.cell db zq;have a3:=f1.cell dr zq;have ai:=f1.cell ca zq;have au:=f1.cell dl zq;have aj:=f1.cell dh zq;have ao:=f1.cell ab zq;have ar:=f1.cell du zq;have a6:=f1.cell aa zq)
  |(go_at_call 149;(with_reducible refine (ds.out _).mono ?_);rintro _ v2 ⟨rfl,f2⟩;have dk:=dv.trans f2 zr;clear ds;have bk:=f2.cell bc zq;have cs:=f2.cell bn zq;have bw:=f2.cell br zq;have b0:=f2.cell bv zq;have bj:=f2.cell bi zq;have b7:=f2.cell bm zq;have bl:=f2.cell bo zq;have bz:=f2.cell bt zq;have a9:=f2.cell a0 zq;have ap:=f2.cell aw zq;have aq:=f2.cell ay zq;have a2:=f2.cell a5 zq;have ak:=f2.cell af zq;have av:=f2.cell ax zq;have a7:=f2.cell a4 zq;have az:=f2.cell a3 zq;have a1:=f2.cell ai zq;have ag:=f2.cell au zq;have ah:=f2.cell aj zq;have ae:=f2.cell ao zq;have al:=f2.cell ar zq;have a8:=f2.cell a6 zq)
  |(go_at_call 149;(with_reducible refine (dc.out _).mono ?_);rintro _ v3 ⟨rfl,f3⟩;have es:=dk.trans f3 zr;clear dc;have cl:=f3.cell bk zq;have ch:=f3.cell bw zq;have cf:=f3.cell b0 zq;have cd:=f3.cell bj zq;have cj:=f3.cell b7 zq;have cg:=f3.cell bl zq;have ck:=f3.cell bz zq;have b5:=f3.cell a9 zq;have bu:=f3.cell ap zq;have bp:=f3.cell aq zq;have bx:=f3.cell a2 zq;have be:=f3.cell ak zq;have bd:=f3.cell av zq;have b8:=f3.cell a7 zq;have b4:=f3.cell az zq;have bf:=f3.cell a1 zq;have bh:=f3.cell ag zq;have bq:=f3.cell ah zq;have bg:=f3.cell ae zq;have b6:=f3.cell al zq;have bs:=f3.cell a8 zq))
 go_quiet (fail)
 have fe:Fr Non w (v3.drewN nq):=es.drewN nq;have ek:(v3.drewN nq).cell? ⟨w.heap.size,2,none⟩=some (.int .i64 x.kind):=cl;have ej:(v3.drewN nq).cell? ⟨w.heap.size,4,none⟩=some (.slice x.pastA x.past.length x.pastC):=ch;have ee:(v3.drewN nq).cell? ⟨w.heap.size,5,none⟩=some (.int .i64 x.dev):=cf;have er:(v3.drewN nq).cell? ⟨w.heap.size,6,none⟩=some (.int .i64 x.old):=cd;have ep:(v3.drewN nq).cell? ⟨w.heap.size,7,none⟩=some (.int .i64 x.mem):=cj;have d9:(v3.drewN nq).cell? ⟨w.heap.size,8,none⟩=some (.int .i64 x.role):=cg;have eg:(v3.drewN nq).cell? ⟨w.heap.size,9,none⟩=some (.slice x.pathA x.path.length x.pathC):=ck;have cw:(v3.drewN nq).cell? ⟨w.heap.size,10,none⟩=some (.int .i64 x.epoch.b):=b5;have cv:(v3.drewN nq).cell? ⟨w.heap.size,11,none⟩=some (.int .i64 x.epoch.s):=bu;have dd:(v3.drewN nq).cell? ⟨w.heap.size,12,none⟩=some (.int .u64 (x.epoch.u:Int)):=bp;have dq:(v3.drewN nq).cell? ⟨w.heap.size,13,none⟩=some (.int .i64 x.n):=bx;have d2:(v3.drewN nq).cell? ⟨w.heap.size,15,none⟩=some (.slice x.refsA x.refs.length x.refsC):=be;have dp:(v3.drewN nq).cell? ⟨w.heap.size,16,none⟩=some (.int .i64 x.of.b):=bd;have cx:(v3.drewN nq).cell? ⟨w.heap.size,17,none⟩=some (.int .i64 x.of.s):=b8;have dx:(v3.drewN nq).cell? ⟨w.heap.size,18,none⟩=some (.int .u64 (x.of.u:Int)):=b4;have d4:(v3.drewN nq).cell? ⟨w.heap.size,19,none⟩=some (.slice x.guardsA x.guards.length x.guardsC):=bf;have de:(v3.drewN nq).cell? ⟨w.heap.size,20,none⟩=some (.int .i64 x.need):=bh;have dz:(v3.drewN nq).cell? ⟨w.heap.size,21,none⟩=some (.int .i64 x.wait):=bq;have dy:(v3.drewN nq).cell? ⟨w.heap.size,22,none⟩=some (.slice x.boxesA x.boxes.length x.boxesC):=bg;have dj:(v3.drewN nq).cell? ⟨w.heap.size,23,none⟩=some (.int .u64 (x.pub:Int)):=b6;have d1:(v3.drewN nq).cell? ⟨w.heap.size,24,none⟩=some (.slice x.histA x.hist.length x.histC):=bs;generalize v3.drewN nq=v4 at*;clear cl ch cf cd cj cg ck b5 bu bp bx be bd b8 b4 bf bh bq bg b6 bs bk cs bw b0 bj b7 bl bz a9 ap aq a2 ak av a7 az a1 ag ah ae al a8 co bc bn br bv bi bm bo bt a0 aw ay a5 af ax a4 a3 ai au aj ao ar a6 c0 c1 c2 c3 c4 c5 c6 c7 c8 c9 dw d3 df dg bb cz db dr ca dl dh ab du aa
 go_upto_if 38 with (go_at_call 149;(with_reducible refine (km.out _).mono ?_);rintro _ v5 ⟨rfl,f5⟩;have ec:=fe.trans f5 zr;clear km;have c2:=f5.cell ek zq;have c4:=f5.cell ej zq;have c5:=f5.cell ee zq;have c6:=f5.cell er zq;have c7:=f5.cell ep zq;have c8:=f5.cell d9 zq;have c9:=f5.cell eg zq;have dw:=f5.cell cw zq;have d3:=f5.cell cv zq;have df:=f5.cell dd zq;have dg:=f5.cell dq zq;have bb:=f5.cell d2 zq;have cz:=f5.cell dp zq;have db:=f5.cell cx zq;have dr:=f5.cell dx zq;have ca:=f5.cell d4 zq;have dl:=f5.cell de zq;have dh:=f5.cell dz zq;have ab:=f5.cell dy zq;have du:=f5.cell dj zq;have aa:=f5.cell d1 zq)
 clear ek ej ee er ep d9 eg cw cv dd dq d2 dp cx dx d4 de dz dy dj d1 fe f5;generalize hv5:v5=W at*
 go_cut [5,8] from 14 (fun a b wc=>W=wc∧a=.int .i64 x.ls∧b=.bool x.mb)
 case first=>
  by_cases k3:x.kind=3
  ·
   have h1:Hid (x.ls=0):=if_pos k3;have fc:Hid (x.mb=((inR x.mem 1 8&&x.dev==0)||(x.mem==0&&x.dev !=0))):=if_pos k3;have fa:=Hv k3;clear k3;generalize inR x.mem 1 8=m1 at*
   rcases zb (x.dev==0) with d0|d0<;>rcases zb (x.mem==0) with e0|e0<;>cases m1
   all_goals
    have fd:(x.dev !=0)=!(x.dev==0):=rfl;rw [d0] at fd;have h2:=fc.out;rw [d0,e0,fd] at h2;replace h2:=Lib.hid h2;clear fc;go_wp2_with (fail);go_meet;exact ⟨rfl,congrArg (Value.int .i64) h1.out.symm,congrArg Value.bool h2.out.symm⟩
  ·
   have h1:Hid (x.ls=1):=if_neg k3;have h2:Hid (x.mb=inR x.mem 1 8):=if_neg k3;have fa:=Gf k3;clear k3;go_wp2_with (fail);go_meet;exact ⟨rfl,congrArg (Value.int .i64) h1.out.symm,congrArg Value.bool h2.out.symm⟩
 case rest=>
 obtain ⟨rfl,rfl,rfl⟩:=hcut
 go_upto_if 57 with (fail)
 go_cut [6,7] from 14 (fun a b wc=>W=wc∧a=.int .i64 x.nd∧b=.int .i64 x.mo)
 case first=>
  by_cases k3:x.kind=1
  ·
   have h1:Hid (x.nd=0):=if_pos k3;have h2:Hid (x.mo=20):=if_pos k3;have fa:=Hv k3;clear k3;go_wp2_with (fail);go_meet;exact ⟨rfl,congrArg (Value.int .i64) h1.out.symm,congrArg (Value.int .i64) h2.out.symm⟩
  ·
   have h1:Hid (x.nd=1):=if_neg k3;have h2:Hid (x.mo=(x.guards.length:Int)):=if_neg k3;have fa:=Gf k3;clear k3;go_wp2_with (fail);go_meet;exact ⟨rfl,congrArg (Value.int .i64) h1.out.symm,congrArg (Value.int .i64) h2.out.symm⟩
 case rest=>
 obtain ⟨rfl,rfl,rfl⟩:=hcut;go_upto_region 10 with (fail)
 have hS:(fun w'=>w'.cell? ⟨w.heap.size,5,none⟩=some (.int .i64 x.dev)∧w'.cell? ⟨w.heap.size,6,none⟩=some (.int .i64 x.old)∧w'.cell? ⟨w.heap.size,8,none⟩=some (.int .i64 x.role)∧w'.cell? ⟨w.heap.size,10,none⟩=some (.int .i64 x.epoch.b)∧w'.cell? ⟨w.heap.size,11,none⟩=some (.int .i64 x.epoch.s)∧w'.cell? ⟨w.heap.size,12,none⟩=some (.int .u64 (x.epoch.u:Int))∧w'.cell? ⟨w.heap.size,13,none⟩=some (.int .i64 x.n)∧w'.cell? ⟨w.heap.size,16,none⟩=some (.int .i64 x.of.b)∧w'.cell? ⟨w.heap.size,17,none⟩=some (.int .i64 x.of.s)∧w'.cell? ⟨w.heap.size,18,none⟩=some (.int .u64 (x.of.u:Int))∧w'.cell? ⟨w.heap.size,20,none⟩=some (.int .i64 x.need)∧w'.cell? ⟨w.heap.size,21,none⟩=some (.int .i64 x.wait)∧w'.cell? ⟨w.heap.size,23,none⟩=some (.int .u64 (x.pub:Int))) W.drew:=by
  and_intros
  · exact c5
  · exact c6
  · exact c8
  · exact dw
  · exact d3
  · exact df
  · exact dg
  · exact cz
  · exact db
  · exact dr
  · exact dl
  · exact dh
  · exact du
 refine wp_region_held_drew (S:=fun w'=>w'.cell? ⟨w.heap.size,5,none⟩=some (.int .i64 x.dev)∧w'.cell? ⟨w.heap.size,6,none⟩=some (.int .i64 x.old)∧w'.cell? ⟨w.heap.size,8,none⟩=some (.int .i64 x.role)∧w'.cell? ⟨w.heap.size,10,none⟩=some (.int .i64 x.epoch.b)∧w'.cell? ⟨w.heap.size,11,none⟩=some (.int .i64 x.epoch.s)∧w'.cell? ⟨w.heap.size,12,none⟩=some (.int .u64 (x.epoch.u:Int))∧w'.cell? ⟨w.heap.size,13,none⟩=some (.int .i64 x.n)∧w'.cell? ⟨w.heap.size,16,none⟩=some (.int .i64 x.of.b)∧w'.cell? ⟨w.heap.size,17,none⟩=some (.int .i64 x.of.s)∧w'.cell? ⟨w.heap.size,18,none⟩=some (.int .u64 (x.of.u:Int))∧w'.cell? ⟨w.heap.size,20,none⟩=some (.int .i64 x.need)∧w'.cell? ⟨w.heap.size,21,none⟩=some (.int .i64 x.wait)∧w'.cell? ⟨w.heap.size,23,none⟩=some (.int .u64 (x.pub:Int))) (by kernel_rfl) hS (fun hHeld=> ?_);clear hHeld;try simp only [List.append_eq,List.cons_append,List.nil_append]
 replace c4:W.drew.cell? ⟨w.heap.size,4,none⟩=some (.slice x.pastA x.past.length x.pastC):=c4;replace c9:W.drew.cell? ⟨w.heap.size,9,none⟩=some (.slice x.pathA x.path.length x.pathC):=c9;replace bb:W.drew.cell? ⟨w.heap.size,15,none⟩=some (.slice x.refsA x.refs.length x.refsC):=bb;replace ca:W.drew.cell? ⟨w.heap.size,19,none⟩=some (.slice x.guardsA x.guards.length x.guardsC):=ca;replace ab:W.drew.cell? ⟨w.heap.size,22,none⟩=some (.slice x.boxesA x.boxes.length x.boxesC):=ab;replace aa:W.drew.cell? ⟨w.heap.size,24,none⟩=some (.slice x.histA x.hist.length x.histC):=aa;replace ec:=ec.drew;clear c2 c7 c5 c6 c8 dw d3 df dg cz db dr dl dh du;generalize W.drew=w0 at*;refine tkH 1 hS (h:=tkH 2 hS (h:=tkH 3 hS (h:=tkH 6 hS (h:=tkH 7 hS (h:=tkH 10 hS (h:=tkH 12 hS (h:=tkH 13 hS (h:=tkH 16 hS (h:=tkH 17 hS (h:=tkH 20 hS (h:=tkH 21 hS (h:=?_))))))))))));simp only [List.set];refine tkH 24 hS (h:=tkH 25 hS (h:=tkH 26 hS (h:=tkH 27 hS (h:=tkH 30 hS (h:=tkH 31 hS (h:=tkH 34 hS (h:=tkH 35 hS (h:=tkH 38 hS (h:=tkH 39 hS (h:=?_))))))))));simp only [List.set];refine Qx (H:=Nat) 0 58 203 3 4 [4,8,14,18,22,28,32,36,40] mayIns (Rb x) (mayCv x) _ _ ((Array.replicate 44 true).setIfInBounds 42 false|>.setIfInBounds 43 false) w0 2 (by decide) (by kernel_rfl) (by kernel_rfl) (by kernel_rfl) Tryz.underlying203 Tryz.underlying3 Tryz.underlying4 ?_ ?_ ?_ (by decide) ?_
 ·
  clear ac ct cn cu cr cq cm;refine List.forall_mem_cons.2 ⟨⟨62,_,_,_,_,#[.tmp 60,.tmp 61,.const (.int .i64 12)],rfl,by kernel_rfl,by kernel_rfl,fun a w' K ha hf hk=>Ex rfl Tryz.func149 (by kernel_rfl) rfl (vals:=#[.int .i64 x.dev,.int .i64 x.ls,.int .i64 12]) (ha.trans (by kernel_rfl)) ((Da x.dev x.ls 12 w').mono ?_)⟩,?_⟩
  ·
   rintro _ ad ⟨rfl,f⟩;exact ⟨_,rfl,hk ad f⟩
  refine List.forall_mem_cons.2 ⟨⟨65,_,_,_,_,#[.tmp 64,.const (.int .i64 1),.const (.int .i64 12)],rfl,by kernel_rfl,by kernel_rfl,fun a w' K ha hf hk=>Ex rfl Tryz.func149 (by kernel_rfl) rfl (vals:=#[.int .i64 x.old,.int .i64 1,.int .i64 12]) (ha.trans (by kernel_rfl)) ((Da x.old 1 12 w').mono ?_)⟩,?_⟩
  ·
   rintro _ ad ⟨rfl,f⟩;exact ⟨_,rfl,hk ad f⟩
  refine List.forall_mem_cons.2 ⟨⟨69,_,_,_,_,#[.tmp 68,.const (.int .i64 1),.const (.int .i64 3)],rfl,by kernel_rfl,by kernel_rfl,fun a w' K ha hf hk=>Ex rfl Tryz.func149 (by kernel_rfl) rfl (vals:=#[.int .i64 x.role,.int .i64 1,.int .i64 3]) (ha.trans (by kernel_rfl)) ((Da x.role 1 3 w').mono ?_)⟩,?_⟩
  ·
   rintro _ ad ⟨rfl,f⟩;exact ⟨_,rfl,hk ad f⟩
  refine List.forall_mem_cons.2 ⟨⟨72,_,_,_,_,#[.tmp 71,.const (.int .i64 0),.const (.int .i64 2147483647)],rfl,by kernel_rfl,by kernel_rfl,fun a w' K ha hf hk=>Ex rfl Tryz.func149 (by kernel_rfl) rfl (vals:=#[.int .i64 x.n,.int .i64 0,.int .i64 2147483647]) (ha.trans (by kernel_rfl)) ((Da x.n 0 2147483647 w').mono ?_)⟩,?_⟩
  ·
   rintro _ ad ⟨rfl,f⟩;exact ⟨_,rfl,hk ad f⟩
  refine List.forall_mem_cons.2 ⟨⟨75,_,_,_,_,#[.tmp 74,.const (.int .i64 0),.const (.int .i64 2147483647)],rfl,by kernel_rfl,by kernel_rfl,fun a w' K ha hf hk=>Ex rfl Tryz.func149 (by kernel_rfl) rfl (vals:=#[.int .i64 x.wait,.int .i64 0,.int .i64 2147483647]) (ha.trans (by kernel_rfl)) ((Da x.wait 0 2147483647 w').mono ?_)⟩,?_⟩
  ·
   rintro _ ad ⟨rfl,f⟩;exact ⟨_,rfl,hk ad f⟩
  refine List.forall_mem_cons.2 ⟨⟨80,_,_,_,_,#[.tmp 77,.tmp 78,.tmp 79],rfl,by kernel_rfl,by kernel_rfl,fun a w' K ha hf hk=>Ex rfl Tryz.func149 (by kernel_rfl) rfl (vals:=#[.int .i64 x.need,.int .i64 x.nd,.int .i64 x.mo]) (ha.trans (by kernel_rfl)) ((Da x.need x.nd x.mo w').mono ?_)⟩,?_⟩
  ·
   rintro _ ad ⟨rfl,f⟩;exact ⟨_,rfl,hk ad f⟩
  refine List.forall_mem_cons.2 ⟨⟨83,_,_,_,_,#[.tmp 82],rfl,by kernel_rfl,by kernel_rfl,fun a w' K ha hf hk=>Ex rfl Tryz.func150 (by kernel_rfl) rfl (vals:=#[.agg x.epoch.V]) (ha.trans (by kernel_rfl)) ((Jc x.epoch w').mono ?_)⟩,?_⟩
  ·
   rintro _ ad ⟨rfl,f⟩;exact ⟨_,rfl,hk ad f⟩
  refine List.forall_mem_cons.2 ⟨⟨86,_,_,_,_,#[.tmp 85],rfl,by kernel_rfl,by kernel_rfl,fun a w' K ha hf hk=>Ex rfl Tryz.func150 (by kernel_rfl) rfl (vals:=#[.agg x.of.V]) (ha.trans (by kernel_rfl)) ((Jc x.of w').mono ?_)⟩,?_⟩
  ·
   rintro _ ad ⟨rfl,f⟩;exact ⟨_,rfl,hk ad f⟩
  refine List.forall_mem_cons.2 ⟨⟨89,_,_,_,_,#[.tmp 88],rfl,by kernel_rfl,by kernel_rfl,fun a w' K ha hf hk=>Ex rfl Tryz.func151 (by kernel_rfl) rfl (vals:=#[.int .u64 (x.pub:Int)]) (ha.trans (by kernel_rfl)) ((I9 x.pub w').mono ?_)⟩,?_⟩
  ·
   rintro _ ad ⟨rfl,f⟩;exact ⟨_,rfl,hk ad f⟩
  exact fun y hy=>absurd hy (by simp)
 ·
  clear ac ct cn cu cr cq cm;unfold mayIns;refine List.forall_mem_cons.2 ⟨Or.inr ⟨4,by kernel_rfl,rfl⟩,?_⟩;refine List.forall_mem_cons.2 ⟨Or.inr ⟨8,by kernel_rfl,rfl⟩,?_⟩;refine List.forall_mem_cons.2 ⟨Or.inl ⟨by kernel_rfl,rfl⟩,?_⟩;refine List.forall_mem_cons.2 ⟨Or.inr ⟨14,by kernel_rfl,rfl⟩,?_⟩;refine List.forall_mem_cons.2 ⟨Or.inr ⟨18,by kernel_rfl,rfl⟩,?_⟩;refine List.forall_mem_cons.2 ⟨Or.inr ⟨22,by kernel_rfl,rfl⟩,?_⟩;refine List.forall_mem_cons.2 ⟨Or.inr ⟨28,by kernel_rfl,rfl⟩,?_⟩;refine List.forall_mem_cons.2 ⟨Or.inr ⟨32,by kernel_rfl,rfl⟩,?_⟩;refine List.forall_mem_cons.2 ⟨Or.inr ⟨36,by kernel_rfl,rfl⟩,?_⟩;refine List.forall_mem_cons.2 ⟨Or.inr ⟨40,by kernel_rfl,rfl⟩,?_⟩;exact fun y hy=>absurd hy (by simp)
 ·
  intro w' hf;obtain ⟨q5,q6,q8,em,eb,ei,en,ed,el,eh,eo,ea,ef⟩:=hS
  and_intros<;>first|exact hf.cell q5 zq|exact hf.cell q6 zq|exact hf.cell q8 zq|exact hf.cell em zq|exact hf.cell eb zq|exact hf.cell ei zq|exact hf.cell en zq|exact hf.cell ed zq|exact hf.cell el zq|exact hf.cell eh zq|exact hf.cell eo zq|exact hf.cell ea zq|exact hf.cell ef zq
 intro b w1 D n hF hb e6 hn cc;rw [Qy ([none,none,none,none,none,none,none,none,none,none,none,none,none,none,none,none,none,none,none,none,none,none,none,none,none,none,none,none,none,none,none,none,none,none,none,none,none,none,none,none,none,none,none,none,none,none,none,none,none,none,none,none,none,none,none,none,none,none,some 0,none,none,none,some 4,none,none,some 8,none,none,none,some 14,none,none,some 18,none,none,some 22,none,none,none,none,some 28,none,none,some 32,none,none,some 36,none,none,some 40,none,none,none,none,none,none,none,none,none,none,none,none,none,none,none,none,none,none,none,none,none,none,none,none,none,none,none,none,none,none,none,none,none,none,none,none,none,none,none,none,none,none,none,none,none,none]) (by kernel_rfl) (by decide)];dsimp only [List.zipWith_cons_cons,List.zipWith_nil_left];simp only [if_true]
 have et:(fun w'=>w'.cell? ⟨w.heap.size,5,none⟩=some (.int .i64 x.dev)∧w'.cell? ⟨w.heap.size,6,none⟩=some (.int .i64 x.old)∧w'.cell? ⟨w.heap.size,8,none⟩=some (.int .i64 x.role)∧w'.cell? ⟨w.heap.size,10,none⟩=some (.int .i64 x.epoch.b)∧w'.cell? ⟨w.heap.size,11,none⟩=some (.int .i64 x.epoch.s)∧w'.cell? ⟨w.heap.size,12,none⟩=some (.int .u64 (x.epoch.u:Int))∧w'.cell? ⟨w.heap.size,13,none⟩=some (.int .i64 x.n)∧w'.cell? ⟨w.heap.size,16,none⟩=some (.int .i64 x.of.b)∧w'.cell? ⟨w.heap.size,17,none⟩=some (.int .i64 x.of.s)∧w'.cell? ⟨w.heap.size,18,none⟩=some (.int .u64 (x.of.u:Int))∧w'.cell? ⟨w.heap.size,20,none⟩=some (.int .i64 x.need)∧w'.cell? ⟨w.heap.size,21,none⟩=some (.int .i64 x.wait)∧w'.cell? ⟨w.heap.size,23,none⟩=some (.int .u64 (x.pub:Int))) w1:=by
  obtain ⟨q5,q6,q8,em,eb,ei,en,ed,el,eh,eo,ea,ef⟩:=hS
  and_intros<;>first|exact hF.cell q5 zq|exact hF.cell q6 zq|exact hF.cell q8 zq|exact hF.cell em zq|exact hF.cell eb zq|exact hF.cell ei zq|exact hF.cell en zq|exact hF.cell ed zq|exact hF.cell el zq|exact hF.cell eh zq|exact hF.cell eo zq|exact hF.cell ea zq|exact hF.cell ef zq
 refine tkH 42 et (h:=?_);simp only [List.set];refine Og 43 (by kernel_rfl) rfl (fun K hK=> ?_);refine Qz rfl rfl e6 (int_keyed Tryz.underlying3) Tryz.underlying203 ?_;intro w2 d7 fp fx;have b9:=Fr.ofGrown fp (fun k hk=>by cases hk);have dm:=hF.trans b9 zr;have fg:=ec.trans dm zr;refine hK.out _ _ ?_ (fun _=> ?_)
 ·
  obtain ⟨q5,q6,q8,em,eb,ei,en,ed,el,eh,eo,ea,ef⟩:=et
  and_intros<;>first|exact b9.cell q5 zq|exact b9.cell q6 zq|exact b9.cell q8 zq|exact b9.cell em zq|exact b9.cell eb zq|exact b9.cell ei zq|exact b9.cell en zq|exact b9.cell ed zq|exact b9.cell el zq|exact b9.cell eh zq|exact b9.cell eo zq|exact b9.cell ea zq|exact b9.cell ef zq
 clear hK K;rw [Aj];simp only [List.set];refine oD ?_;have fv:w.heap.size<w1.heap.size:=Nat.lt_of_lt_of_le (World.block_lt_of_cell? _ _ ca) hF.size;replace c4:=dm.cell c4 zq;replace c9:=dm.cell c9 zq;replace bb:=dm.cell bb zq;replace ca:=dm.cell ca zq;replace ab:=dm.cell ab zq;replace aa:=dm.cell aa zq;have ew:=(ec.trans hF zr).size;clear et hS dm b9 hF ec;go_simp;go_wp2_with (fail)
 go_loopw [] (fun wr=>∃(cp:Lit→Bool) (ev:Nat),wr.ranges Tryz.prog 3 (plainElem Tryz.prog 4) b w1.heap.size n D cp ev∧Hid (RA x has cp)∧Fr Non w wr∧Fr (fun k=>w1.heap.size≤k) w2 wr) (fun wr=>wr.rangeLeft b w1.heap.size)
 case atStart=>exact ⟨_,_,d7,RA.start (fun j hj=>by rw [(cc.2 _).1,Option.isSome_map]),fg,Fr.refl _ _⟩
 case round=>
  obtain ⟨cp,ev,d7,fb,hF,d6⟩:=hrel;clear fg
  go_wp2_with (first
   |(at_next;refine Q4 _ rfl _ rfl 3 4 Tryz.underlying3 Tryz.underlying4 b w1.heap.size n D cp ev rfl d7 ?_ ?_)
   |go_in)
  ·
   intro fs fi;have hd:=RA.done fb fi;replace ac:Hid (LB=(g1&&(g2&&(g3&&(g4&&(g5&&g6)))))):=by show _=_;rw [ac.out,hd];rfl
   subst fs;clear d7 hd fi fb cc;replace c4:=d6.cell c4 (by show ¬w1.heap.size≤w.heap.size;omega);replace c9:=d6.cell c9 (by show ¬w1.heap.size≤w.heap.size;omega);replace bb:=d6.cell bb (by show ¬w1.heap.size≤w.heap.size;omega);replace ca:=d6.cell ca (by show ¬w1.heap.size≤w.heap.size;omega);replace ab:=d6.cell ab (by show ¬w1.heap.size≤w.heap.size;omega);replace aa:=d6.cell aa (by show ¬w1.heap.size≤w.heap.size;omega)
   cases g1
   ·
    have hv:Hid (false=LB):=ac.out.symm;clear ac;go_wp2_with (first|(go_at_call 157;(with_reducible refine (ct.out _ hF).mono ?_);rintro _ v0 ⟨rfl,e0⟩;have hF:=hF.trans e0 zr;have bb:=e0.cell bb zq;have c4:=e0.cell c4 zq;have c9:=e0.cell c9 zq;have ab:=e0.cell ab zq;have aa:=e0.cell aa zq)|(go_at_call 158;(with_reducible refine (cn.out _ hF).mono ?_);rintro _ v1 ⟨rfl,e1⟩;have hF:=hF.trans e1 zr;have c4:=e1.cell c4 zq;have c9:=e1.cell c9 zq;have ab:=e1.cell ab zq;have aa:=e1.cell aa zq)|(go_at_call 160;(with_reducible refine (cu.out _ hF).mono ?_);rintro _ v2 ⟨rfl,e2⟩;have hF:=hF.trans e2 zr;have c9:=e2.cell c9 zq;have ab:=e2.cell ab zq;have aa:=e2.cell aa zq)|(go_at_call 161;(with_reducible refine (cr.out _ hF).mono ?_);rintro _ v3 ⟨rfl,e3⟩;have hF:=hF.trans e3 zr;have ab:=e3.cell ab zq;have aa:=e3.cell aa zq)|(go_at_call 153;(with_reducible refine (cq.out _ hF).mono ?_);rintro _ v4 ⟨rfl,e4⟩;have hF:=hF.trans e4 zr;have aa:=e4.cell aa zq)|(go_at_call 162;(with_reducible refine (cm.out _ hF).mono ?_);rintro _ v5 ⟨rfl,e5⟩;have hF:=hF.trans e5 zr))
    go_ret
    exact ⟨congrArg (fun z=>Ending.returned (.bool z)) hv.out,hF⟩
   cases g2
   ·
    have hv:Hid (false=LB):=ac.out.symm;clear ac;go_wp2_with (first|(go_at_call 157;(with_reducible refine (ct.out _ hF).mono ?_);rintro _ v0 ⟨rfl,e0⟩;have hF:=hF.trans e0 zr;have bb:=e0.cell bb zq;have c4:=e0.cell c4 zq;have c9:=e0.cell c9 zq;have ab:=e0.cell ab zq;have aa:=e0.cell aa zq)|(go_at_call 158;(with_reducible refine (cn.out _ hF).mono ?_);rintro _ v1 ⟨rfl,e1⟩;have hF:=hF.trans e1 zr;have c4:=e1.cell c4 zq;have c9:=e1.cell c9 zq;have ab:=e1.cell ab zq;have aa:=e1.cell aa zq)|(go_at_call 160;(with_reducible refine (cu.out _ hF).mono ?_);rintro _ v2 ⟨rfl,e2⟩;have hF:=hF.trans e2 zr;have c9:=e2.cell c9 zq;have ab:=e2.cell ab zq;have aa:=e2.cell aa zq)|(go_at_call 161;(with_reducible refine (cr.out _ hF).mono ?_);rintro _ v3 ⟨rfl,e3⟩;have hF:=hF.trans e3 zr;have ab:=e3.cell ab zq;have aa:=e3.cell aa zq)|(go_at_call 153;(with_reducible refine (cq.out _ hF).mono ?_);rintro _ v4 ⟨rfl,e4⟩;have hF:=hF.trans e4 zr;have aa:=e4.cell aa zq)|(go_at_call 162;(with_reducible refine (cm.out _ hF).mono ?_);rintro _ v5 ⟨rfl,e5⟩;have hF:=hF.trans e5 zr))
    go_ret
    exact ⟨congrArg (fun z=>Ending.returned (.bool z)) hv.out,hF⟩
   cases g3
   ·
    have hv:Hid (false=LB):=ac.out.symm;clear ac;go_wp2_with (first|(go_at_call 157;(with_reducible refine (ct.out _ hF).mono ?_);rintro _ v0 ⟨rfl,e0⟩;have hF:=hF.trans e0 zr;have bb:=e0.cell bb zq;have c4:=e0.cell c4 zq;have c9:=e0.cell c9 zq;have ab:=e0.cell ab zq;have aa:=e0.cell aa zq)|(go_at_call 158;(with_reducible refine (cn.out _ hF).mono ?_);rintro _ v1 ⟨rfl,e1⟩;have hF:=hF.trans e1 zr;have c4:=e1.cell c4 zq;have c9:=e1.cell c9 zq;have ab:=e1.cell ab zq;have aa:=e1.cell aa zq)|(go_at_call 160;(with_reducible refine (cu.out _ hF).mono ?_);rintro _ v2 ⟨rfl,e2⟩;have hF:=hF.trans e2 zr;have c9:=e2.cell c9 zq;have ab:=e2.cell ab zq;have aa:=e2.cell aa zq)|(go_at_call 161;(with_reducible refine (cr.out _ hF).mono ?_);rintro _ v3 ⟨rfl,e3⟩;have hF:=hF.trans e3 zr;have ab:=e3.cell ab zq;have aa:=e3.cell aa zq)|(go_at_call 153;(with_reducible refine (cq.out _ hF).mono ?_);rintro _ v4 ⟨rfl,e4⟩;have hF:=hF.trans e4 zr;have aa:=e4.cell aa zq)|(go_at_call 162;(with_reducible refine (cm.out _ hF).mono ?_);rintro _ v5 ⟨rfl,e5⟩;have hF:=hF.trans e5 zr))
    go_ret
    exact ⟨congrArg (fun z=>Ending.returned (.bool z)) hv.out,hF⟩
   cases g4
   ·
    have hv:Hid (false=LB):=ac.out.symm;clear ac;go_wp2_with (first|(go_at_call 157;(with_reducible refine (ct.out _ hF).mono ?_);rintro _ v0 ⟨rfl,e0⟩;have hF:=hF.trans e0 zr;have bb:=e0.cell bb zq;have c4:=e0.cell c4 zq;have c9:=e0.cell c9 zq;have ab:=e0.cell ab zq;have aa:=e0.cell aa zq)|(go_at_call 158;(with_reducible refine (cn.out _ hF).mono ?_);rintro _ v1 ⟨rfl,e1⟩;have hF:=hF.trans e1 zr;have c4:=e1.cell c4 zq;have c9:=e1.cell c9 zq;have ab:=e1.cell ab zq;have aa:=e1.cell aa zq)|(go_at_call 160;(with_reducible refine (cu.out _ hF).mono ?_);rintro _ v2 ⟨rfl,e2⟩;have hF:=hF.trans e2 zr;have c9:=e2.cell c9 zq;have ab:=e2.cell ab zq;have aa:=e2.cell aa zq)|(go_at_call 161;(with_reducible refine (cr.out _ hF).mono ?_);rintro _ v3 ⟨rfl,e3⟩;have hF:=hF.trans e3 zr;have ab:=e3.cell ab zq;have aa:=e3.cell aa zq)|(go_at_call 153;(with_reducible refine (cq.out _ hF).mono ?_);rintro _ v4 ⟨rfl,e4⟩;have hF:=hF.trans e4 zr;have aa:=e4.cell aa zq)|(go_at_call 162;(with_reducible refine (cm.out _ hF).mono ?_);rintro _ v5 ⟨rfl,e5⟩;have hF:=hF.trans e5 zr))
    go_ret
    exact ⟨congrArg (fun z=>Ending.returned (.bool z)) hv.out,hF⟩
   cases g5
   ·
    have hv:Hid (false=LB):=ac.out.symm;clear ac;go_wp2_with (first|(go_at_call 157;(with_reducible refine (ct.out _ hF).mono ?_);rintro _ v0 ⟨rfl,e0⟩;have hF:=hF.trans e0 zr;have bb:=e0.cell bb zq;have c4:=e0.cell c4 zq;have c9:=e0.cell c9 zq;have ab:=e0.cell ab zq;have aa:=e0.cell aa zq)|(go_at_call 158;(with_reducible refine (cn.out _ hF).mono ?_);rintro _ v1 ⟨rfl,e1⟩;have hF:=hF.trans e1 zr;have c4:=e1.cell c4 zq;have c9:=e1.cell c9 zq;have ab:=e1.cell ab zq;have aa:=e1.cell aa zq)|(go_at_call 160;(with_reducible refine (cu.out _ hF).mono ?_);rintro _ v2 ⟨rfl,e2⟩;have hF:=hF.trans e2 zr;have c9:=e2.cell c9 zq;have ab:=e2.cell ab zq;have aa:=e2.cell aa zq)|(go_at_call 161;(with_reducible refine (cr.out _ hF).mono ?_);rintro _ v3 ⟨rfl,e3⟩;have hF:=hF.trans e3 zr;have ab:=e3.cell ab zq;have aa:=e3.cell aa zq)|(go_at_call 153;(with_reducible refine (cq.out _ hF).mono ?_);rintro _ v4 ⟨rfl,e4⟩;have hF:=hF.trans e4 zr;have aa:=e4.cell aa zq)|(go_at_call 162;(with_reducible refine (cm.out _ hF).mono ?_);rintro _ v5 ⟨rfl,e5⟩;have hF:=hF.trans e5 zr))
    go_ret
    exact ⟨congrArg (fun z=>Ending.returned (.bool z)) hv.out,hF⟩
   have hv:Hid (g6=LB):=ac.out.symm;clear ac;go_wp2_with (first|(go_at_call 157;(with_reducible refine (ct.out _ hF).mono ?_);rintro _ v0 ⟨rfl,e0⟩;have hF:=hF.trans e0 zr;have bb:=e0.cell bb zq;have c4:=e0.cell c4 zq;have c9:=e0.cell c9 zq;have ab:=e0.cell ab zq;have aa:=e0.cell aa zq)|(go_at_call 158;(with_reducible refine (cn.out _ hF).mono ?_);rintro _ v1 ⟨rfl,e1⟩;have hF:=hF.trans e1 zr;have c4:=e1.cell c4 zq;have c9:=e1.cell c9 zq;have ab:=e1.cell ab zq;have aa:=e1.cell aa zq)|(go_at_call 160;(with_reducible refine (cu.out _ hF).mono ?_);rintro _ v2 ⟨rfl,e2⟩;have hF:=hF.trans e2 zr;have c9:=e2.cell c9 zq;have ab:=e2.cell ab zq;have aa:=e2.cell aa zq)|(go_at_call 161;(with_reducible refine (cr.out _ hF).mono ?_);rintro _ v3 ⟨rfl,e3⟩;have hF:=hF.trans e3 zr;have ab:=e3.cell ab zq;have aa:=e3.cell aa zq)|(go_at_call 153;(with_reducible refine (cq.out _ hF).mono ?_);rintro _ v4 ⟨rfl,e4⟩;have hF:=hF.trans e4 zr;have aa:=e4.cell aa zq)|(go_at_call 162;(with_reducible refine (cm.out _ hF).mono ?_);rintro _ v5 ⟨rfl,e5⟩;have hF:=hF.trans e5 zr))
   go_ret
   exact ⟨congrArg (fun z=>Ending.returned (.bool z)) hv.out,hF⟩
  ·
   intro k v w3 e8 hv ft d5 e7 ey fq fo;clear ct cn cu cr cq cm c4 c9 bb ca ab aa;obtain ⟨c,rfl,fl⟩:=cc.entry hv;obtain ⟨y,eu,fj⟩:=Option.map_eq_some_iff.1 fl;have fh:=List.find?_some eu;obtain ⟨j,hj,hk,fn⟩:=Zd x y (List.mem_of_find?_eq_some eu);obtain rfl:y.2.1=k:=by simpa using fh
   rw [hk] at ft d5 fo ⊢;have hc:x.mayB j=c:=by rw [← fn,fj]
   have ff:Fr (fun k=>some w1.heap.size=some k) wr w3:=Fr.grown (Fr.refl _ _) ey (fun k hk _=>hk);have fm:Fr Non w w3:=hF.trans ff (fun i hi e=>by cases e;have:=ew;omega);have e9:Fr (fun k=>w1.heap.size≤k) w2 w3:=d6.trans ff (fun i hi e=>by cases e;exact Nat.le_refl _);have fu:w3.rangeLeft b w1.heap.size<wr.rangeLeft b w1.heap.size:=by rw [d5.left_eq,d7.left_eq];exact e7
   have fk:=Ye has j hhas hj;have fw:(bits .and .i64 (has:Int) ((2^j:Nat):Int) !=0)=has.testBit j:=by rw [bne,← Bool.not_not (has.testBit j),← fk];rfl
   have d8:=Lib.hid (RA.step (x:=x) (has:=has) (j:=j) fb hj);have ez:=Lib.hid (fun h1 h2=>Zf (x:=x) (has:=has) hj h1 h2);generalize hpj:((2^j:Nat):Int)=pj at*;clear hv fl eu fj fh hk fn d7 fk cc;generalize htb:has.testBit j=tb at*;generalize x.mayB j=mj at*;subst hc
   cases tb<;>cases mj
   case true.false=>
    have hv:Hid (false=LB):=by show _=_;rw [ac.out,ez.out rfl rfl];rfl
    clear ac ez d8;go_wp2_with (fail)
    go_ret
    exact ⟨congrArg (fun z=>Ending.returned (.bool z)) hv.out,fm⟩
   all_goals
    clear ez ac;go_wp2_with (fail);exact ⟨⟨_,e8,d5,d8.out (by decide),fm,e9⟩,fu⟩
end Oq
end
section
open Go.RowKit
attribute [local go_sem ↓] Go.wp_at_zero Go.wp_at_succ
namespace Oq
attribute [local go_sem] Bool.not_false Bool.not_true
end Oq
end
end Go.Proofs.YtkanjaikgphjfaaGreatDoor
