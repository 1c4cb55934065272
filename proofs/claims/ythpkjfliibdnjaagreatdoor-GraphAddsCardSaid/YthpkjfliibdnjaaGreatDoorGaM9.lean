/-
  Contracts of the functions that the claim's statement reaches, walked one by one (part 9).
  Conditions: as each theorem says.
-/
import Derived.Deep.CutBlock
import Derived.Deep.Cut
import Derived.Test.YthpkjfliibdnjaaGreatDoorGaM2
import Derived.Test.YthpkjfliibdnjaaGreatDoorGaM4
import Derived.Test.YthpkjfliibdnjaaGreatDoorGaM8
set_option maxRecDepth 100000
set_option maxHeartbeats 16000000
open List renaming getElem?_eq_getElem→Am6,mem_of_getElem?→Am7,take_of_length_le→Am8,length_map→Am9,getElem?_map→An0
namespace Go.Proofs.YthpkjfliibdnjaaGreatDoor
section
open Go.RowKit Go.Maps
attribute [local go_sem ↓] Go.wp_at_zero Go.wp_at_succ
namespace Oq
attribute [local go_sem] Bool.not_false Bool.not_true
def OpL.ls (x:OpL):Int:=if x.kind=3 then 0 else 1
def OpL.nd (x:OpL):Int:=if x.kind=1 then 0 else 1
def OpL.mo (x:OpL):Int:=if x.kind=1 then 20 else (x.guards.length:Int)
def OpL.mb (x:OpL):Bool:=if x.kind=3 then ((inR x.mem 1 8&&x.dev==0)||(x.mem==0&&x.dev !=0)) else inR x.mem 1 8
def OpL.mayB (x:OpL) (j:Nat):Bool:=match j with
 |0=>inR x.dev x.ls 12
 |1=>inR x.old 1 12
 |2=>x.mb
 |3=>inR x.role 1 3
 |5=>x.epoch.named
 |6=>inR x.n 0 2147483647
 |9=>x.of.named
 |11=>inR x.need x.nd x.mo
 |12=>inR x.wait 0 2147483647
 |14=>Au x.pub
 |_=>true
def OpL.itemsL (x:OpL):Bool:=x.guards.all (fun n=>inR n 1 12)&&(x.refs.all fOk&&(x.past.all Id.named&&(x.path.all (fun y=>Au y.p&&y.xs.all Bx.may)&&(x.boxes.all Bx.may&&x.hist.all (fun y=>y.f.named)))))
def OpL.loopB (x:OpL) (has:Nat):Bool:=(List.range 16).all (fun j=> !has.testBit j||x.mayB j)
def OpL.rngB (x:OpL) (has:Nat):Bool:=inR x.by_ 1 12&&(inR x.sq 1 2147483647&&(inR x.at_ 0 2147483647&&(x.loopB has&&x.itemsL)))
def RA (x:OpL) (has:Nat) (left:Lit→Bool):Prop:=∀j,j<16→left (.int .i64 ((2^j:Nat):Int))=false→has.testBit j=true→x.mayB j=true
def mayIns:List (Nat × Int × Nat):=[(5,(1:Int),62),(9,(2:Int),65),(11,(4:Int),66),(15,(8:Int),69),(19,(64:Int),72),(23,(4096:Int),75),(29,(2048:Int),80),(33,(32:Int),83),(37,(512:Int),86),(41,(16384:Int),89)]
def Qh (x:OpL) (t:Nat):Bool:=match t with
 |62=>x.mayB 0
 |65=>x.mayB 1
 |66=>x.mayB 2
 |69=>x.mayB 3
 |72=>x.mayB 6
 |75=>x.mayB 12
 |80=>x.mayB 11
 |83=>x.mayB 5
 |86=>x.mayB 9
 |89=>x.mayB 14
 |_=>false
def mayCv (x:OpL) (t:Nat):Bool:=match t with
 |4=>x.mayB 0
 |8=>x.mayB 1
 |14=>x.mayB 3
 |18=>x.mayB 6
 |22=>x.mayB 12
 |28=>x.mayB 11
 |32=>x.mayB 5
 |36=>x.mayB 9
 |40=>x.mayB 14
 |_=>false
theorem Y5 (x:OpL):∀y∈mayIns,∃j,j<16∧y.2.1=((2^j:Nat):Int)∧Qh x y.2.2=x.mayB j:=by
 unfold mayIns;refine List.forall_mem_cons.2 ⟨⟨0,by decide,rfl,rfl⟩,?_⟩;refine List.forall_mem_cons.2 ⟨⟨1,by decide,rfl,rfl⟩,?_⟩;refine List.forall_mem_cons.2 ⟨⟨2,by decide,rfl,rfl⟩,?_⟩;refine List.forall_mem_cons.2 ⟨⟨3,by decide,rfl,rfl⟩,?_⟩;refine List.forall_mem_cons.2 ⟨⟨6,by decide,rfl,rfl⟩,?_⟩;refine List.forall_mem_cons.2 ⟨⟨12,by decide,rfl,rfl⟩,?_⟩;refine List.forall_mem_cons.2 ⟨⟨11,by decide,rfl,rfl⟩,?_⟩;refine List.forall_mem_cons.2 ⟨⟨5,by decide,rfl,rfl⟩,?_⟩;refine List.forall_mem_cons.2 ⟨⟨9,by decide,rfl,rfl⟩,?_⟩;refine List.forall_mem_cons.2 ⟨⟨14,by decide,rfl,rfl⟩,?_⟩;exact fun y hy=>absurd hy (by simp)
theorem Y6:∀j,j<16→(mayIns.find? (fun y=>y.2.1==((2^j:Nat):Int))).isSome=false→j=4∨j=7∨j=8∨j=10∨j=13∨j=15:=by decide
theorem RA.start {x:OpL} {has:Nat} {left:Lit→Bool} (h:∀j,j<16→left (.int .i64 ((2^j:Nat):Int))=(mayIns.find? (fun y=>y.2.1==((2^j:Nat):Int))).isSome):RA x has left:=by
 intro j hj hl _;rw [h j hj] at hl
 rcases Y6 j hj hl with rfl|rfl|rfl|rfl|rfl|rfl<;>rfl
theorem RA.step {x:OpL} {has j:Nat} {left:Lit→Bool} (h:RA x has left) (hj:j<16) (hb:has.testBit j=true→x.mayB j=true):RA x has (fun z=>left z&& !z.sameKey (.int .i64 ((2^j:Nat):Int))):=by
 intro i hi hl hbi
 by_cases hij:i=j
 ·
  subst hij;exact hb hbi
 ·
  replace hl:(left (.int .i64 ((2^i:Nat):Int))&& !(Lit.int .i64 ((2^i:Nat):Int)).sameKey (.int .i64 ((2^j:Nat):Int)))=false:=hl;rw [Qc hij] at hl;exact h i hi (by simpa using hl) hbi
theorem RA.done {x:OpL} {has:Nat} {left:Lit→Bool} (h:RA x has left) (hl:∀kl,left kl=false):x.loopB has=true:=by
 unfold OpL.loopB;rw [List.all_eq_true];intro j hj;have hj':j<16:=by simpa using hj
 cases hb:has.testBit j with
 |false=>rfl
 |true=>rw [h j hj' (hl _) hb];rfl
theorem Y7 {x:OpL} {has j:Nat} (hj:j<16) (hb:has.testBit j=true) (hm:x.mayB j=false):x.loopB has=false:=by
 unfold OpL.loopB;rw [List.all_eq_false];exact ⟨j,by simpa using hj,by rw [hb,hm];decide⟩
theorem Y8 (x:OpL) (has:Nat) (hhas:has<65536) (w:World) (hat:x.at w w.heap.size) (hok:x.op.ok):Calls Tryz.prog 74 #[.agg x.cells,.int .i64 (has:Int)] w (Ad (x.rngB has) w):=by
 have bb:=Blk.new w 44 x.cells;have f0:Fr Non w (w.alloc (.cells x.cells 44)):=(Fr.refl Non w).alloc _;have c0:(w.alloc (.cells x.cells 44)).cell? ⟨w.heap.size,0,none⟩=some (.int .i64 x.by_):=bb.cell 0;have c1:(w.alloc (.cells x.cells 44)).cell? ⟨w.heap.size,1,none⟩=some (.int .i64 x.sq):=bb.cell 1;have c2:(w.alloc (.cells x.cells 44)).cell? ⟨w.heap.size,2,none⟩=some (.int .i64 x.kind):=bb.cell 2;have c3:(w.alloc (.cells x.cells 44)).cell? ⟨w.heap.size,3,none⟩=some (.int .i64 x.at_):=bb.cell 3;have c4:(w.alloc (.cells x.cells 44)).cell? ⟨w.heap.size,4,none⟩=some (.slice x.pastA x.past.length x.pastC):=bb.cell 4;have c5:(w.alloc (.cells x.cells 44)).cell? ⟨w.heap.size,5,none⟩=some (.int .i64 x.dev):=bb.cell 5;have c6:(w.alloc (.cells x.cells 44)).cell? ⟨w.heap.size,6,none⟩=some (.int .i64 x.old):=bb.cell 6;have c7:(w.alloc (.cells x.cells 44)).cell? ⟨w.heap.size,7,none⟩=some (.int .i64 x.mem):=bb.cell 7;have c8:(w.alloc (.cells x.cells 44)).cell? ⟨w.heap.size,8,none⟩=some (.int .i64 x.role):=bb.cell 8;have c9:(w.alloc (.cells x.cells 44)).cell? ⟨w.heap.size,9,none⟩=some (.slice x.pathA x.path.length x.pathC):=bb.cell 9;have dl:(w.alloc (.cells x.cells 44)).cell? ⟨w.heap.size,10,none⟩=some (.int .i64 x.epoch.b):=bb.cell 10;have di:(w.alloc (.cells x.cells 44)).cell? ⟨w.heap.size,11,none⟩=some (.int .i64 x.epoch.s):=bb.cell 11;have dv:(w.alloc (.cells x.cells 44)).cell? ⟨w.heap.size,12,none⟩=some (.int .u64 (x.epoch.u:Int)):=bb.cell 12;have dw:(w.alloc (.cells x.cells 44)).cell? ⟨w.heap.size,13,none⟩=some (.int .i64 x.n):=bb.cell 13;have ba:(w.alloc (.cells x.cells 44)).cell? ⟨w.heap.size,15,none⟩=some (.slice x.refsA x.refs.length x.refsC):=bb.cell 15;have dy:(w.alloc (.cells x.cells 44)).cell? ⟨w.heap.size,16,none⟩=some (.int .i64 x.of.b):=bb.cell 16;have d1:(w.alloc (.cells x.cells 44)).cell? ⟨w.heap.size,17,none⟩=some (.int .i64 x.of.s):=bb.cell 17;have cw:(w.alloc (.cells x.cells 44)).cell? ⟨w.heap.size,18,none⟩=some (.int .u64 (x.of.u:Int)):=bb.cell 18;have cc:(w.alloc (.cells x.cells 44)).cell? ⟨w.heap.size,19,none⟩=some (.slice x.guardsA x.guards.length x.guardsC):=bb.cell 19;have dj:(w.alloc (.cells x.cells 44)).cell? ⟨w.heap.size,20,none⟩=some (.int .i64 x.need):=bb.cell 20;have cx:(w.alloc (.cells x.cells 44)).cell? ⟨w.heap.size,21,none⟩=some (.int .i64 x.wait):=bb.cell 21;have ab:(w.alloc (.cells x.cells 44)).cell? ⟨w.heap.size,22,none⟩=some (.slice x.boxesA x.boxes.length x.boxesC):=bb.cell 22;have ds:(w.alloc (.cells x.cells 44)).cell? ⟨w.heap.size,23,none⟩=some (.int .u64 (x.pub:Int)):=bb.cell 23;have aa:(w.alloc (.cells x.cells 44)).cell? ⟨w.heap.size,24,none⟩=some (.slice x.histA x.hist.length x.histC):=bb.cell 24;have cb:x.guards.length≤1000000:=by have h:=hok.guards.1;rw [show x.op.guards=x.guards from rfl] at h;omega
 have db:x.refs.length≤1000000:=by have h:=hok.refs.1;rw [show x.op.refs=x.refs from rfl] at h;omega
 have cg:x.boxes.length≤1000000:=by have h:=hok.boxes.1;rw [show x.op.boxes=x.boxes from rfl] at h;omega
 have ci:∀y∈x.path,y.xs.length≤1000000:=fun y hy=>by have h:=(hok.path.2 y.nd (List.mem_map.2 ⟨y,hy,rfl⟩)).2.1;rw [show y.nd.xs=y.xs from rfl] at h;omega
 have cz:x.past.length≤1000000:=by have h:=hok.past.1;rw [show x.op.past=x.past from rfl] at h;omega
 have dc:x.path.length≤1000000:=by have h:=hok.path.1;rw [show x.op.path=x.path.map NdL.nd from rfl,Am9] at h;omega
 have dm:x.hist.length≤1000000:=by have h:=hok.hist.1;rw [show x.op.hist=x.hist.map SlL.sl from rfl,Am9] at h;omega
 have cy:=Lib.hid (fun w'=>C7 x.by_ 1 12 w');have dg:=Lib.hid (fun w'=>C7 x.sq 1 2147483647 w');have dh:=Lib.hid (fun w'=>C7 x.at_ 0 2147483647 w');have km:=Lib.hid (fun w'=>C7 x.mem 1 8 w');have cq:=Lib.hid (fun (w':World) (h:Fr Non w w')=>Yc w.heap.size x.guards.length x.guardsC x.guardsA x.guards (fun n=>inR n 1 12) w' rfl (hat.guards.1.fr h zr) cb (fun y _ ad _=>Yx y ad));have cn:=Lib.hid (fun (w':World) (h:Fr Non w w')=>Yf w.heap.size x.refs.length x.refsC x.refsA x.refs fOk w' rfl (hat.refs.1.fr h zr) db (fun y _ ad _=>Is y ad));have ct:=Lib.hid (fun (w':World) (h:Fr Non w w')=>Yi w.heap.size x.past.length x.pastC x.pastA x.past Id.named w' rfl (hat.past.1.fr h zr) cz (fun y _ ad _=>It y ad));have cp:=Lib.hid (fun (w':World) (h:Fr Non w w')=>Yn w.heap.size x.path.length x.pathC x.pathA x.path (fun y=>Au y.p&&y.xs.all Bx.may) w' rfl (hat.path.1.fr h zr) dc (fun y hy ad h'=>Y3 w.heap.size y ad ((hat.nodes y hy).fr (h.trans h' zr) zr) (ci y hy)));have co:=Lib.hid (fun (w':World) (h:Fr Non w w')=>Qf w.heap.size x.boxes.length x.boxesC x.boxesA x.boxes Bx.may w' rfl (hat.boxes.1.fr h zr) cg (fun y _ ad _=>Qg y ad));have cr:=Lib.hid (fun (w':World) (h:Fr Non w w')=>Yt w.heap.size x.hist.length x.histC x.histA x.hist (fun y=>y.f.named) w' rfl (hat.hist.1.fr h zr) dm (fun y _ ad _=>Yy y ad));have ac:Hid (x.rngB has=(inR x.by_ 1 12&&(inR x.sq 1 2147483647&&(inR x.at_ 0 2147483647&&(x.loopB has&&(x.guards.all (fun n=>inR n 1 12)&&(x.refs.all fOk&&(x.past.all Id.named&&(x.path.all (fun y=>Au y.p&&y.xs.all Bx.may)&&(x.boxes.all Bx.may&&x.hist.all (fun y=>y.f.named))))))))))):=rfl;generalize x.rngB has=LB at*;generalize inR x.by_ 1 12=b1 at*;generalize inR x.sq 1 2147483647=b2 at*;generalize inR x.at_ 0 2147483647=b3 at*;generalize (x.guards.all (fun n=>inR n 1 12))=g1 at*;generalize (x.refs.all fOk)=g2 at*;generalize (x.past.all Id.named)=g3 at*;generalize (x.path.all (fun y=>Au y.p&&y.xs.all Bx.may))=g4 at*;generalize (x.boxes.all Bx.may)=g5 at*;generalize (x.hist.all (fun y=>y.f.named))=g6 at*;generalize x.cells=CS at*;clear bb hat hok cz dc dm cb db ci cg
 cases b1
 ·
  have hv:Hid (false=LB):=by show _=_;rw [ac.out];rfl
  clear ac;go_enter Tryz.func74,Tryz.ntmps74;go_wp2_with (first
  |(go_at_call 114;(with_reducible refine (cy.out _).mono ?_);rintro _ v1 ⟨rfl,f1⟩;have du:=f0.trans f1 zr;clear cy;have cm:=f1.cell c1 zq;have bj:=f1.cell c2 zq;have bf:=f1.cell c3 zq;have b8:=f1.cell c4 zq;have bk:=f1.cell c5 zq;have bw:=f1.cell c6 zq;have bd:=f1.cell c7 zq;have bx:=f1.cell c8 zq;have b6:=f1.cell c9 zq;have a3:=f1.cell dl zq;have ap:=f1.cell di zq;have ao:=f1.cell dv zq;have a4:=f1.cell dw zq;have af:=f1.cell ba zq;have az:=f1.cell dy zq;have aw:=f1.cell d1 zq;have ag:=f1.cell cw zq;have av:=f1.cell cc zq;have a8:=f1.cell dj zq;have ah:=f1.cell cx zq;have au:=f1.cell ab zq;have a1:=f1.cell ds zq;have a2:=f1.cell aa zq)
  |(go_at_call 114;(with_reducible refine (dg.out _).mono ?_);rintro _ v2 ⟨rfl,f2⟩;have dx:=du.trans f2 zr;clear dg;have b4:=f2.cell bj zq;have cs:=f2.cell bf zq;have be:=f2.cell b8 zq;have bq:=f2.cell bk zq;have bi:=f2.cell bw zq;have bh:=f2.cell bd zq;have b7:=f2.cell bx zq;have bc:=f2.cell b6 zq;have ar:=f2.cell a3 zq;have aj:=f2.cell ap zq;have a0:=f2.cell ao zq;have a5:=f2.cell a4 zq;have aq:=f2.cell af zq;have ai:=f2.cell az zq;have a9:=f2.cell aw zq;have al:=f2.cell ag zq;have ak:=f2.cell av zq;have ax:=f2.cell a8 zq;have a7:=f2.cell ah zq;have ay:=f2.cell au zq;have ae:=f2.cell a1 zq;have a6:=f2.cell a2 zq)
  |(go_at_call 114;(with_reducible refine (dh.out _).mono ?_);rintro _ v3 ⟨rfl,f3⟩;have ej:=dx.trans f3 zr;clear dh;have cf:=f3.cell b4 zq;have ce:=f3.cell be zq;have ck:=f3.cell bq zq;have cd:=f3.cell bi zq;have cl:=f3.cell bh zq;have cj:=f3.cell b7 zq;have ch:=f3.cell bc zq;have bg:=f3.cell ar zq;have bs:=f3.cell aj zq;have bz:=f3.cell a0 zq;have b5:=f3.cell a5 zq;have bo:=f3.cell aq zq;have bv:=f3.cell ai zq;have bn:=f3.cell a9 zq;have br:=f3.cell al zq;have b0:=f3.cell ak zq;have bl:=f3.cell ax zq;have bu:=f3.cell a7 zq;have bt:=f3.cell ay zq;have bm:=f3.cell ae zq;have bp:=f3.cell a6 zq))
  go_ret
  exact ⟨congrArg (fun z=>Ending.returned (.bool z)) hv.out,du⟩
 cases b2
 ·
  have hv:Hid (false=LB):=by show _=_;rw [ac.out];rfl
  clear ac;go_enter Tryz.func74,Tryz.ntmps74;go_wp2_with (first
  |(go_at_call 114;(with_reducible refine (cy.out _).mono ?_);rintro _ v1 ⟨rfl,f1⟩;have du:=f0.trans f1 zr;clear cy;have cm:=f1.cell c1 zq;have bj:=f1.cell c2 zq;have bf:=f1.cell c3 zq;have b8:=f1.cell c4 zq;have bk:=f1.cell c5 zq;have bw:=f1.cell c6 zq;have bd:=f1.cell c7 zq;have bx:=f1.cell c8 zq;have b6:=f1.cell c9 zq;have a3:=f1.cell dl zq;have ap:=f1.cell di zq;have ao:=f1.cell dv zq;have a4:=f1.cell dw zq;have af:=f1.cell ba zq;have az:=f1.cell dy zq;have aw:=f1.cell d1 zq;have ag:=f1.cell cw zq;have av:=f1.cell cc zq;have a8:=f1.cell dj zq;have ah:=f1.cell cx zq;have au:=f1.cell ab zq;have a1:=f1.cell ds zq;have a2:=f1.cell aa zq)
  |(go_at_call 114;(with_reducible refine (dg.out _).mono ?_);rintro _ v2 ⟨rfl,f2⟩;have dx:=du.trans f2 zr;clear dg;have b4:=f2.cell bj zq;have cs:=f2.cell bf zq;have be:=f2.cell b8 zq;have bq:=f2.cell bk zq;have bi:=f2.cell bw zq;have bh:=f2.cell bd zq;have b7:=f2.cell bx zq;have bc:=f2.cell b6 zq;have ar:=f2.cell a3 zq;have aj:=f2.cell ap zq;have a0:=f2.cell ao zq;have a5:=f2.cell a4 zq;have aq:=f2.cell af zq;have ai:=f2.cell az zq;have a9:=f2.cell aw zq;have al:=f2.cell ag zq;have ak:=f2.cell av zq;have ax:=f2.cell a8 zq;have a7:=f2.cell ah zq;have ay:=f2.cell au zq;have ae:=f2.cell a1 zq;have a6:=f2.cell a2 zq)
  |(go_at_call 114;(with_reducible refine (dh.out _).mono ?_);rintro _ v3 ⟨rfl,f3⟩;have ej:=dx.trans f3 zr;clear dh;have cf:=f3.cell b4 zq;have ce:=f3.cell be zq;have ck:=f3.cell bq zq;have cd:=f3.cell bi zq;have cl:=f3.cell bh zq;have cj:=f3.cell b7 zq;have ch:=f3.cell bc zq;have bg:=f3.cell ar zq;have bs:=f3.cell aj zq;have bz:=f3.cell a0 zq;have b5:=f3.cell a5 zq;have bo:=f3.cell aq zq;have bv:=f3.cell ai zq;have bn:=f3.cell a9 zq;have br:=f3.cell al zq;have b0:=f3.cell ak zq;have bl:=f3.cell ax zq;have bu:=f3.cell a7 zq;have bt:=f3.cell ay zq;have bm:=f3.cell ae zq;have bp:=f3.cell a6 zq))
  go_ret
  exact ⟨congrArg (fun z=>Ending.returned (.bool z)) hv.out,dx⟩
 cases b3
 ·
  have hv:Hid (false=LB):=by show _=_;rw [ac.out];rfl
  clear ac;go_enter Tryz.func74,Tryz.ntmps74;go_wp2_with (first
  |(go_at_call 114;(with_reducible refine (cy.out _).mono ?_);rintro _ v1 ⟨rfl,f1⟩;have du:=f0.trans f1 zr;clear cy;have cm:=f1.cell c1 zq;have bj:=f1.cell c2 zq;have bf:=f1.cell c3 zq;have b8:=f1.cell c4 zq;have bk:=f1.cell c5 zq;have bw:=f1.cell c6 zq;have bd:=f1.cell c7 zq;have bx:=f1.cell c8 zq;have b6:=f1.cell c9 zq;have a3:=f1.cell dl zq;have ap:=f1.cell di zq;have ao:=f1.cell dv zq;have a4:=f1.cell dw zq;have af:=f1.cell ba zq;have az:=f1.cell dy zq;have aw:=f1.cell d1 zq;have ag:=f1.cell cw zq;have av:=f1.cell cc zq;have a8:=f1.cell dj zq;have ah:=f1.cell cx zq;have au:=f1.cell ab zq;have a1:=f1.cell ds zq;have a2:=f1.cell aa zq)
  |(go_at_call 114;(with_reducible refine (dg.out _).mono ?_);rintro _ v2 ⟨rfl,f2⟩;have dx:=du.trans f2 zr;clear dg;have b4:=f2.cell bj zq;have cs:=f2.cell bf zq;have be:=f2.cell b8 zq;have bq:=f2.cell bk zq;have bi:=f2.cell bw zq;have bh:=f2.cell bd zq;have b7:=f2.cell bx zq;have bc:=f2.cell b6 zq;have ar:=f2.cell a3 zq;have aj:=f2.cell ap zq;have a0:=f2.cell ao zq;have a5:=f2.cell a4 zq;have aq:=f2.cell af zq;have ai:=f2.cell az zq;have a9:=f2.cell aw zq;have al:=f2.cell ag zq;have ak:=f2.cell av zq;have ax:=f2.cell a8 zq;have a7:=f2.cell ah zq;have ay:=f2.cell au zq;have ae:=f2.cell a1 zq;have a6:=f2.cell a2 zq)
  |(go_at_call 114;(with_reducible refine (dh.out _).mono ?_);rintro _ v3 ⟨rfl,f3⟩;have ej:=dx.trans f3 zr;clear dh;have cf:=f3.cell b4 zq;have ce:=f3.cell be zq;have ck:=f3.cell bq zq;have cd:=f3.cell bi zq;have cl:=f3.cell bh zq;have cj:=f3.cell b7 zq;have ch:=f3.cell bc zq;have bg:=f3.cell ar zq;have bs:=f3.cell aj zq;have bz:=f3.cell a0 zq;have b5:=f3.cell a5 zq;have bo:=f3.cell aq zq;have bv:=f3.cell ai zq;have bn:=f3.cell a9 zq;have br:=f3.cell al zq;have b0:=f3.cell ak zq;have bl:=f3.cell ax zq;have bu:=f3.cell a7 zq;have bt:=f3.cell ay zq;have bm:=f3.cell ae zq;have bp:=f3.cell a6 zq))
  go_ret
  exact ⟨congrArg (fun z=>Ending.returned (.bool z)) hv.out,ej⟩
 replace ac:Hid (LB=(x.loopB has&&(g1&&(g2&&(g3&&(g4&&(g5&&g6))))))):=ac;go_enter Tryz.func74,Tryz.ntmps74
 go_wp2_with (first
  |(go_at_call 114;(with_reducible refine (cy.out _).mono ?_);rintro _ v1 ⟨rfl,f1⟩;have du:=f0.trans f1 zr;clear cy;have cm:=f1.cell c1 zq;have bj:=f1.cell c2 zq;have bf:=f1.cell c3 zq;have b8:=f1.cell c4 zq;have bk:=f1.cell c5 zq;have bw:=f1.cell c6 zq;have bd:=f1.cell c7 zq;have bx:=f1.cell c8 zq;have b6:=f1.cell c9 zq;have a3:=f1.cell dl zq;have ap:=f1.cell di zq;have ao:=f1.cell dv zq;have a4:=f1.cell dw zq;have af:=f1.cell ba zq;have az:=f1.cell dy zq;have aw:=f1.cell d1 zq;have ag:=f1.cell cw zq;have av:=f1.cell cc zq;have a8:=f1.cell dj zq;have ah:=f1.cell cx zq;have au:=f1.cell ab zq;have a1:=f1.cell ds zq;have a2:=f1.cell aa zq)
  |(go_at_call 114;(with_reducible refine (dg.out _).mono ?_);rintro _ v2 ⟨rfl,f2⟩;have dx:=du.trans f2 zr;clear dg;have b4:=f2.cell bj zq;have cs:=f2.cell bf zq;have be:=f2.cell b8 zq;have bq:=f2.cell bk zq;have bi:=f2.cell bw zq;have bh:=f2.cell bd zq;have b7:=f2.cell bx zq;have bc:=f2.cell b6 zq;have ar:=f2.cell a3 zq;have aj:=f2.cell ap zq;have a0:=f2.cell ao zq;have a5:=f2.cell a4 zq;have aq:=f2.cell af zq;have ai:=f2.cell az zq;have a9:=f2.cell aw zq;have al:=f2.cell ag zq;have ak:=f2.cell av zq;have ax:=f2.cell a8 zq;have a7:=f2.cell ah zq;have ay:=f2.cell au zq;have ae:=f2.cell a1 zq;have a6:=f2.cell a2 zq)
  |(go_at_call 114;(with_reducible refine (dh.out _).mono ?_);rintro _ v3 ⟨rfl,f3⟩;have ej:=dx.trans f3 zr;clear dh;have cf:=f3.cell b4 zq;have ce:=f3.cell be zq;have ck:=f3.cell bq zq;have cd:=f3.cell bi zq;have cl:=f3.cell bh zq;have cj:=f3.cell b7 zq;have ch:=f3.cell bc zq;have bg:=f3.cell ar zq;have bs:=f3.cell aj zq;have bz:=f3.cell a0 zq;have b5:=f3.cell a5 zq;have bo:=f3.cell aq zq;have bv:=f3.cell ai zq;have bn:=f3.cell a9 zq;have br:=f3.cell al zq;have b0:=f3.cell ak zq;have bl:=f3.cell ax zq;have bu:=f3.cell a7 zq;have bt:=f3.cell ay zq;have bm:=f3.cell ae zq;have bp:=f3.cell a6 zq))
 go_quiet (fail)
 have fe:Fr Non w (v3.drewN nq):=ej.drewN nq;have er:(v3.drewN nq).cell? ⟨w.heap.size,2,none⟩=some (.int .i64 x.kind):=cf;have eb:(v3.drewN nq).cell? ⟨w.heap.size,4,none⟩=some (.slice x.pastA x.past.length x.pastC):=ce;have ee:(v3.drewN nq).cell? ⟨w.heap.size,5,none⟩=some (.int .i64 x.dev):=ck;have ei:(v3.drewN nq).cell? ⟨w.heap.size,6,none⟩=some (.int .i64 x.old):=cd;have ep:(v3.drewN nq).cell? ⟨w.heap.size,7,none⟩=some (.int .i64 x.mem):=cl;have eh:(v3.drewN nq).cell? ⟨w.heap.size,8,none⟩=some (.int .i64 x.role):=cj;have ed:(v3.drewN nq).cell? ⟨w.heap.size,9,none⟩=some (.slice x.pathA x.path.length x.pathC):=ch;have dd:(v3.drewN nq).cell? ⟨w.heap.size,10,none⟩=some (.int .i64 x.epoch.b):=bg;have de:(v3.drewN nq).cell? ⟨w.heap.size,11,none⟩=some (.int .i64 x.epoch.s):=bs;have d2:(v3.drewN nq).cell? ⟨w.heap.size,12,none⟩=some (.int .u64 (x.epoch.u:Int)):=bz;have dn:(v3.drewN nq).cell? ⟨w.heap.size,13,none⟩=some (.int .i64 x.n):=b5;have dk:(v3.drewN nq).cell? ⟨w.heap.size,15,none⟩=some (.slice x.refsA x.refs.length x.refsC):=bo;have dq:(v3.drewN nq).cell? ⟨w.heap.size,16,none⟩=some (.int .i64 x.of.b):=bv;have d4:(v3.drewN nq).cell? ⟨w.heap.size,17,none⟩=some (.int .i64 x.of.s):=bn;have dp:(v3.drewN nq).cell? ⟨w.heap.size,18,none⟩=some (.int .u64 (x.of.u:Int)):=br;have dr:(v3.drewN nq).cell? ⟨w.heap.size,19,none⟩=some (.slice x.guardsA x.guards.length x.guardsC):=b0;have cv:(v3.drewN nq).cell? ⟨w.heap.size,20,none⟩=some (.int .i64 x.need):=bl;have df:(v3.drewN nq).cell? ⟨w.heap.size,21,none⟩=some (.int .i64 x.wait):=bu;have da:(v3.drewN nq).cell? ⟨w.heap.size,22,none⟩=some (.slice x.boxesA x.boxes.length x.boxesC):=bt;have d3:(v3.drewN nq).cell? ⟨w.heap.size,23,none⟩=some (.int .u64 (x.pub:Int)):=bm;have dz:(v3.drewN nq).cell? ⟨w.heap.size,24,none⟩=some (.slice x.histA x.hist.length x.histC):=bp;generalize v3.drewN nq=v4 at*;clear cf ce ck cd cl cj ch bg bs bz b5 bo bv bn br b0 bl bu bt bm bp b4 cs be bq bi bh b7 bc ar aj a0 a5 aq ai a9 al ak ax a7 ay ae a6 cm bj bf b8 bk bw bd bx b6 a3 ap ao a4 af az aw ag av a8 ah au a1 a2 c0 c1 c2 c3 c4 c5 c6 c7 c8 c9 dl di dv dw ba dy d1 cw cc dj cx ab ds aa
 go_upto_if 38 with (go_at_call 114;(with_reducible refine (km.out _).mono ?_);rintro _ v5 ⟨rfl,f5⟩;have eo:=fe.trans f5 zr;clear km;have c2:=f5.cell er zq;have c4:=f5.cell eb zq;have c5:=f5.cell ee zq;have c6:=f5.cell ei zq;have c7:=f5.cell ep zq;have c8:=f5.cell eh zq;have c9:=f5.cell ed zq;have dl:=f5.cell dd zq;have di:=f5.cell de zq;have dv:=f5.cell d2 zq;have dw:=f5.cell dn zq;have ba:=f5.cell dk zq;have dy:=f5.cell dq zq;have d1:=f5.cell d4 zq;have cw:=f5.cell dp zq;have cc:=f5.cell dr zq;have dj:=f5.cell cv zq;have cx:=f5.cell df zq;have ab:=f5.cell da zq;have ds:=f5.cell d3 zq;have aa:=f5.cell dz zq)
 clear er eb ee ei ep eh ed dd de d2 dn dk dq d4 dp dr cv df da d3 dz fe f5;generalize hv5:v5=W at*
 go_cut [5,8] from 14 (fun a b wc=>W=wc∧a=.int .i64 x.ls∧b=.bool x.mb)
 case first=>
  by_cases k3:x.kind=3
  ·
   have h1:Hid (x.ls=0):=if_pos k3;have fm:Hid (x.mb=((inR x.mem 1 8&&x.dev==0)||(x.mem==0&&x.dev !=0))):=if_pos k3;have e6:=Cx k3;clear k3;generalize inR x.mem 1 8=m1 at*
   rcases zb (x.dev==0) with d0|d0<;>rcases zb (x.mem==0) with e0|e0<;>cases m1
   all_goals
    have fg:(x.dev !=0)=!(x.dev==0):=rfl;rw [d0] at fg;have h2:=fm.out;rw [d0,e0,fg] at h2;replace h2:=Lib.hid h2;clear fm;go_wp2_with (fail);go_meet;exact ⟨rfl,congrArg (Value.int .i64) h1.out.symm,congrArg Value.bool h2.out.symm⟩
  ·
   have h1:Hid (x.ls=1):=if_neg k3;have h2:Hid (x.mb=inR x.mem 1 8):=if_neg k3;have e6:=Cv k3;clear k3;go_wp2_with (fail);go_meet;exact ⟨rfl,congrArg (Value.int .i64) h1.out.symm,congrArg Value.bool h2.out.symm⟩
 case rest=>
 obtain ⟨rfl,rfl,rfl⟩:=hcut
 go_upto_if 57 with (fail)
 go_cut [6,7] from 14 (fun a b wc=>W=wc∧a=.int .i64 x.nd∧b=.int .i64 x.mo)
 case first=>
  by_cases k3:x.kind=1
  ·
   have h1:Hid (x.nd=0):=if_pos k3;have h2:Hid (x.mo=20):=if_pos k3;have e6:=Cx k3;clear k3;go_wp2_with (fail);go_meet;exact ⟨rfl,congrArg (Value.int .i64) h1.out.symm,congrArg (Value.int .i64) h2.out.symm⟩
  ·
   have h1:Hid (x.nd=1):=if_neg k3;have h2:Hid (x.mo=(x.guards.length:Int)):=if_neg k3;have e6:=Cv k3;clear k3;go_wp2_with (fail);go_meet;exact ⟨rfl,congrArg (Value.int .i64) h1.out.symm,congrArg (Value.int .i64) h2.out.symm⟩
 case rest=>
 obtain ⟨rfl,rfl,rfl⟩:=hcut;go_upto_region 10 with (fail)
 have hS:(fun w'=>w'.cell? ⟨w.heap.size,5,none⟩=some (.int .i64 x.dev)∧w'.cell? ⟨w.heap.size,6,none⟩=some (.int .i64 x.old)∧w'.cell? ⟨w.heap.size,8,none⟩=some (.int .i64 x.role)∧w'.cell? ⟨w.heap.size,10,none⟩=some (.int .i64 x.epoch.b)∧w'.cell? ⟨w.heap.size,11,none⟩=some (.int .i64 x.epoch.s)∧w'.cell? ⟨w.heap.size,12,none⟩=some (.int .u64 (x.epoch.u:Int))∧w'.cell? ⟨w.heap.size,13,none⟩=some (.int .i64 x.n)∧w'.cell? ⟨w.heap.size,16,none⟩=some (.int .i64 x.of.b)∧w'.cell? ⟨w.heap.size,17,none⟩=some (.int .i64 x.of.s)∧w'.cell? ⟨w.heap.size,18,none⟩=some (.int .u64 (x.of.u:Int))∧w'.cell? ⟨w.heap.size,20,none⟩=some (.int .i64 x.need)∧w'.cell? ⟨w.heap.size,21,none⟩=some (.int .i64 x.wait)∧w'.cell? ⟨w.heap.size,23,none⟩=some (.int .u64 (x.pub:Int))) W.drew:=by
  and_intros
  · exact c5
  · exact c6
  · exact c8
  · exact dl
  · exact di
  · exact dv
  · exact dw
  · exact dy
  · exact d1
  · exact cw
  · exact dj
  · exact cx
  · exact ds
 refine wp_region_held_drew (S:=fun w'=>w'.cell? ⟨w.heap.size,5,none⟩=some (.int .i64 x.dev)∧w'.cell? ⟨w.heap.size,6,none⟩=some (.int .i64 x.old)∧w'.cell? ⟨w.heap.size,8,none⟩=some (.int .i64 x.role)∧w'.cell? ⟨w.heap.size,10,none⟩=some (.int .i64 x.epoch.b)∧w'.cell? ⟨w.heap.size,11,none⟩=some (.int .i64 x.epoch.s)∧w'.cell? ⟨w.heap.size,12,none⟩=some (.int .u64 (x.epoch.u:Int))∧w'.cell? ⟨w.heap.size,13,none⟩=some (.int .i64 x.n)∧w'.cell? ⟨w.heap.size,16,none⟩=some (.int .i64 x.of.b)∧w'.cell? ⟨w.heap.size,17,none⟩=some (.int .i64 x.of.s)∧w'.cell? ⟨w.heap.size,18,none⟩=some (.int .u64 (x.of.u:Int))∧w'.cell? ⟨w.heap.size,20,none⟩=some (.int .i64 x.need)∧w'.cell? ⟨w.heap.size,21,none⟩=some (.int .i64 x.wait)∧w'.cell? ⟨w.heap.size,23,none⟩=some (.int .u64 (x.pub:Int))) (by kernel_rfl) hS (fun hHeld=> ?_);clear hHeld;try simp only [List.append_eq,List.cons_append,List.nil_append]
 replace c4:W.drew.cell? ⟨w.heap.size,4,none⟩=some (.slice x.pastA x.past.length x.pastC):=c4;replace c9:W.drew.cell? ⟨w.heap.size,9,none⟩=some (.slice x.pathA x.path.length x.pathC):=c9;replace ba:W.drew.cell? ⟨w.heap.size,15,none⟩=some (.slice x.refsA x.refs.length x.refsC):=ba;replace cc:W.drew.cell? ⟨w.heap.size,19,none⟩=some (.slice x.guardsA x.guards.length x.guardsC):=cc;replace ab:W.drew.cell? ⟨w.heap.size,22,none⟩=some (.slice x.boxesA x.boxes.length x.boxesC):=ab;replace aa:W.drew.cell? ⟨w.heap.size,24,none⟩=some (.slice x.histA x.hist.length x.histC):=aa;replace eo:=eo.drew;clear c2 c7 c5 c6 c8 dl di dv dw dy d1 cw dj cx ds;generalize W.drew=w0 at*;refine tkH 1 hS (h:=tkH 2 hS (h:=tkH 3 hS (h:=tkH 6 hS (h:=tkH 7 hS (h:=tkH 10 hS (h:=tkH 12 hS (h:=tkH 13 hS (h:=tkH 16 hS (h:=tkH 17 hS (h:=tkH 20 hS (h:=tkH 21 hS (h:=?_))))))))))));simp only [List.set];refine tkH 24 hS (h:=tkH 25 hS (h:=tkH 26 hS (h:=tkH 27 hS (h:=tkH 30 hS (h:=tkH 31 hS (h:=tkH 34 hS (h:=tkH 35 hS (h:=tkH 38 hS (h:=tkH 39 hS (h:=?_))))))))));simp only [List.set];refine P7 (H:=Nat) 0 58 157 3 4 [4,8,14,18,22,28,32,36,40] mayIns (Qh x) (mayCv x) _ _ ((Array.replicate 44 true).setIfInBounds 42 false|>.setIfInBounds 43 false) w0 2 (by decide) (by kernel_rfl) (by kernel_rfl) (by kernel_rfl) Tryz.underlying157 Tryz.underlying3 Tryz.underlying4 ?_ ?_ ?_ (by decide) ?_
 ·
  clear ac cq cn ct cp co cr;refine List.forall_mem_cons.2 ⟨⟨62,_,_,_,_,#[.tmp 60,.tmp 61,.const (.int .i64 12)],rfl,by kernel_rfl,by kernel_rfl,fun a w' K ha hf hk=>Ev rfl Tryz.func114 (by kernel_rfl) rfl (vals:=#[.int .i64 x.dev,.int .i64 x.ls,.int .i64 12]) (ha.trans (by kernel_rfl)) ((C7 x.dev x.ls 12 w').mono ?_)⟩,?_⟩
  ·
   rintro _ ad ⟨rfl,f⟩;exact ⟨_,rfl,hk ad f⟩
  refine List.forall_mem_cons.2 ⟨⟨65,_,_,_,_,#[.tmp 64,.const (.int .i64 1),.const (.int .i64 12)],rfl,by kernel_rfl,by kernel_rfl,fun a w' K ha hf hk=>Ev rfl Tryz.func114 (by kernel_rfl) rfl (vals:=#[.int .i64 x.old,.int .i64 1,.int .i64 12]) (ha.trans (by kernel_rfl)) ((C7 x.old 1 12 w').mono ?_)⟩,?_⟩
  ·
   rintro _ ad ⟨rfl,f⟩;exact ⟨_,rfl,hk ad f⟩
  refine List.forall_mem_cons.2 ⟨⟨69,_,_,_,_,#[.tmp 68,.const (.int .i64 1),.const (.int .i64 3)],rfl,by kernel_rfl,by kernel_rfl,fun a w' K ha hf hk=>Ev rfl Tryz.func114 (by kernel_rfl) rfl (vals:=#[.int .i64 x.role,.int .i64 1,.int .i64 3]) (ha.trans (by kernel_rfl)) ((C7 x.role 1 3 w').mono ?_)⟩,?_⟩
  ·
   rintro _ ad ⟨rfl,f⟩;exact ⟨_,rfl,hk ad f⟩
  refine List.forall_mem_cons.2 ⟨⟨72,_,_,_,_,#[.tmp 71,.const (.int .i64 0),.const (.int .i64 2147483647)],rfl,by kernel_rfl,by kernel_rfl,fun a w' K ha hf hk=>Ev rfl Tryz.func114 (by kernel_rfl) rfl (vals:=#[.int .i64 x.n,.int .i64 0,.int .i64 2147483647]) (ha.trans (by kernel_rfl)) ((C7 x.n 0 2147483647 w').mono ?_)⟩,?_⟩
  ·
   rintro _ ad ⟨rfl,f⟩;exact ⟨_,rfl,hk ad f⟩
  refine List.forall_mem_cons.2 ⟨⟨75,_,_,_,_,#[.tmp 74,.const (.int .i64 0),.const (.int .i64 2147483647)],rfl,by kernel_rfl,by kernel_rfl,fun a w' K ha hf hk=>Ev rfl Tryz.func114 (by kernel_rfl) rfl (vals:=#[.int .i64 x.wait,.int .i64 0,.int .i64 2147483647]) (ha.trans (by kernel_rfl)) ((C7 x.wait 0 2147483647 w').mono ?_)⟩,?_⟩
  ·
   rintro _ ad ⟨rfl,f⟩;exact ⟨_,rfl,hk ad f⟩
  refine List.forall_mem_cons.2 ⟨⟨80,_,_,_,_,#[.tmp 77,.tmp 78,.tmp 79],rfl,by kernel_rfl,by kernel_rfl,fun a w' K ha hf hk=>Ev rfl Tryz.func114 (by kernel_rfl) rfl (vals:=#[.int .i64 x.need,.int .i64 x.nd,.int .i64 x.mo]) (ha.trans (by kernel_rfl)) ((C7 x.need x.nd x.mo w').mono ?_)⟩,?_⟩
  ·
   rintro _ ad ⟨rfl,f⟩;exact ⟨_,rfl,hk ad f⟩
  refine List.forall_mem_cons.2 ⟨⟨83,_,_,_,_,#[.tmp 82],rfl,by kernel_rfl,by kernel_rfl,fun a w' K ha hf hk=>Ev rfl Tryz.func115 (by kernel_rfl) rfl (vals:=#[.agg x.epoch.V]) (ha.trans (by kernel_rfl)) ((It x.epoch w').mono ?_)⟩,?_⟩
  ·
   rintro _ ad ⟨rfl,f⟩;exact ⟨_,rfl,hk ad f⟩
  refine List.forall_mem_cons.2 ⟨⟨86,_,_,_,_,#[.tmp 85],rfl,by kernel_rfl,by kernel_rfl,fun a w' K ha hf hk=>Ev rfl Tryz.func115 (by kernel_rfl) rfl (vals:=#[.agg x.of.V]) (ha.trans (by kernel_rfl)) ((It x.of w').mono ?_)⟩,?_⟩
  ·
   rintro _ ad ⟨rfl,f⟩;exact ⟨_,rfl,hk ad f⟩
  refine List.forall_mem_cons.2 ⟨⟨89,_,_,_,_,#[.tmp 88],rfl,by kernel_rfl,by kernel_rfl,fun a w' K ha hf hk=>Ev rfl Tryz.func116 (by kernel_rfl) rfl (vals:=#[.int .u64 (x.pub:Int)]) (ha.trans (by kernel_rfl)) ((Iq x.pub w').mono ?_)⟩,?_⟩
  ·
   rintro _ ad ⟨rfl,f⟩;exact ⟨_,rfl,hk ad f⟩
  exact fun y hy=>absurd hy (by simp)
 ·
  clear ac cq cn ct cp co cr;unfold mayIns;refine List.forall_mem_cons.2 ⟨Or.inr ⟨4,by kernel_rfl,rfl⟩,?_⟩;refine List.forall_mem_cons.2 ⟨Or.inr ⟨8,by kernel_rfl,rfl⟩,?_⟩;refine List.forall_mem_cons.2 ⟨Or.inl ⟨by kernel_rfl,rfl⟩,?_⟩;refine List.forall_mem_cons.2 ⟨Or.inr ⟨14,by kernel_rfl,rfl⟩,?_⟩;refine List.forall_mem_cons.2 ⟨Or.inr ⟨18,by kernel_rfl,rfl⟩,?_⟩;refine List.forall_mem_cons.2 ⟨Or.inr ⟨22,by kernel_rfl,rfl⟩,?_⟩;refine List.forall_mem_cons.2 ⟨Or.inr ⟨28,by kernel_rfl,rfl⟩,?_⟩;refine List.forall_mem_cons.2 ⟨Or.inr ⟨32,by kernel_rfl,rfl⟩,?_⟩;refine List.forall_mem_cons.2 ⟨Or.inr ⟨36,by kernel_rfl,rfl⟩,?_⟩;refine List.forall_mem_cons.2 ⟨Or.inr ⟨40,by kernel_rfl,rfl⟩,?_⟩;exact fun y hy=>absurd hy (by simp)
 ·
  intro w' hf;obtain ⟨q5,q6,q8,em,d9,es,ef,el,eg,ea,ec,d8,en⟩:=hS
  and_intros<;>first|exact hf.cell q5 zq|exact hf.cell q6 zq|exact hf.cell q8 zq|exact hf.cell em zq|exact hf.cell d9 zq|exact hf.cell es zq|exact hf.cell ef zq|exact hf.cell el zq|exact hf.cell eg zq|exact hf.cell ea zq|exact hf.cell ec zq|exact hf.cell d8 zq|exact hf.cell en zq
 intro b w1 D n hF hb ew hn ca;rw [P8 ([none,none,none,none,none,none,none,none,none,none,none,none,none,none,none,none,none,none,none,none,none,none,none,none,none,none,none,none,none,none,none,none,none,none,none,none,none,none,none,none,none,none,none,none,none,none,none,none,none,none,none,none,none,none,none,none,none,none,some 0,none,none,none,some 4,none,none,some 8,none,none,none,some 14,none,none,some 18,none,none,some 22,none,none,none,none,some 28,none,none,some 32,none,none,some 36,none,none,some 40,none,none,none,none,none,none,none,none,none,none,none,none,none,none,none,none,none,none,none,none,none,none,none,none,none,none,none,none,none,none,none,none,none,none,none,none,none,none,none,none,none,none,none,none,none,none]) (by kernel_rfl) (by decide)];dsimp only [List.zipWith_cons_cons,List.zipWith_nil_left];simp only [if_true]
 have fa:(fun w'=>w'.cell? ⟨w.heap.size,5,none⟩=some (.int .i64 x.dev)∧w'.cell? ⟨w.heap.size,6,none⟩=some (.int .i64 x.old)∧w'.cell? ⟨w.heap.size,8,none⟩=some (.int .i64 x.role)∧w'.cell? ⟨w.heap.size,10,none⟩=some (.int .i64 x.epoch.b)∧w'.cell? ⟨w.heap.size,11,none⟩=some (.int .i64 x.epoch.s)∧w'.cell? ⟨w.heap.size,12,none⟩=some (.int .u64 (x.epoch.u:Int))∧w'.cell? ⟨w.heap.size,13,none⟩=some (.int .i64 x.n)∧w'.cell? ⟨w.heap.size,16,none⟩=some (.int .i64 x.of.b)∧w'.cell? ⟨w.heap.size,17,none⟩=some (.int .i64 x.of.s)∧w'.cell? ⟨w.heap.size,18,none⟩=some (.int .u64 (x.of.u:Int))∧w'.cell? ⟨w.heap.size,20,none⟩=some (.int .i64 x.need)∧w'.cell? ⟨w.heap.size,21,none⟩=some (.int .i64 x.wait)∧w'.cell? ⟨w.heap.size,23,none⟩=some (.int .u64 (x.pub:Int))) w1:=by
  obtain ⟨q5,q6,q8,em,d9,es,ef,el,eg,ea,ec,d8,en⟩:=hS
  and_intros<;>first|exact hF.cell q5 zq|exact hF.cell q6 zq|exact hF.cell q8 zq|exact hF.cell em zq|exact hF.cell d9 zq|exact hF.cell es zq|exact hF.cell ef zq|exact hF.cell el zq|exact hF.cell eg zq|exact hF.cell ea zq|exact hF.cell ec zq|exact hF.cell d8 zq|exact hF.cell en zq
 refine tkH 42 fa (h:=?_);simp only [List.set];refine Na 43 (by kernel_rfl) rfl (fun K hK=> ?_);refine P9 rfl rfl ew (int_keyed Tryz.underlying3) Tryz.underlying157 ?_;intro w2 d7 fq fx;have b9:=Fr.ofGrown fq (fun k hk=>by cases hk);have dt:=hF.trans b9 zr;have fl:=eo.trans dt zr;refine hK.out _ _ ?_ (fun _=> ?_)
 ·
  obtain ⟨q5,q6,q8,em,d9,es,ef,el,eg,ea,ec,d8,en⟩:=fa
  and_intros<;>first|exact b9.cell q5 zq|exact b9.cell q6 zq|exact b9.cell q8 zq|exact b9.cell em zq|exact b9.cell d9 zq|exact b9.cell es zq|exact b9.cell ef zq|exact b9.cell el zq|exact b9.cell eg zq|exact b9.cell ea zq|exact b9.cell ec zq|exact b9.cell d8 zq|exact b9.cell en zq
 clear hK K;rw [Ab];simp only [List.set];refine oD ?_;have fs:w.heap.size<w1.heap.size:=Nat.lt_of_lt_of_le (World.block_lt_of_cell? _ _ cc) hF.size;replace c4:=dt.cell c4 zq;replace c9:=dt.cell c9 zq;replace ba:=dt.cell ba zq;replace cc:=dt.cell cc zq;replace ab:=dt.cell ab zq;replace aa:=dt.cell aa zq;have e8:=(eo.trans hF zr).size;clear fa hS dt b9 hF eo;go_simp;go_wp2_with (fail)
 go_loopw [] (fun wr=>∃(cu:Lit→Bool) (et:Nat),wr.ranges Tryz.prog 3 (plainElem Tryz.prog 4) b w1.heap.size n D cu et∧Hid (RA x has cu)∧Fr Non w wr∧Fr (fun k=>w1.heap.size≤k) w2 wr) (fun wr=>wr.rangeLeft b w1.heap.size)
 case atStart=>exact ⟨_,_,d7,RA.start (fun j hj=>by rw [(ca.2 _).1,Option.isSome_map]),fl,Fr.refl _ _⟩
 case round=>
  obtain ⟨cu,et,d7,ev,hF,d6⟩:=hrel;clear fl
  go_wp2_with (first
   |(at_next;refine Qa _ rfl _ rfl 3 4 Tryz.underlying3 Tryz.underlying4 b w1.heap.size n D cu et rfl d7 ?_ ?_)
   |go_in)
  ·
   intro fu fh;have hd:=RA.done ev fh;replace ac:Hid (LB=(g1&&(g2&&(g3&&(g4&&(g5&&g6)))))):=by show _=_;rw [ac.out,hd];rfl
   subst fu;clear d7 hd fh ev ca;replace c4:=d6.cell c4 (by show ¬w1.heap.size≤w.heap.size;omega);replace c9:=d6.cell c9 (by show ¬w1.heap.size≤w.heap.size;omega);replace ba:=d6.cell ba (by show ¬w1.heap.size≤w.heap.size;omega);replace cc:=d6.cell cc (by show ¬w1.heap.size≤w.heap.size;omega);replace ab:=d6.cell ab (by show ¬w1.heap.size≤w.heap.size;omega);replace aa:=d6.cell aa (by show ¬w1.heap.size≤w.heap.size;omega)
   cases g1
   ·
    have hv:Hid (false=LB):=ac.out.symm;clear ac;go_wp2_with (first|(go_at_call 122;(with_reducible refine (cq.out _ hF).mono ?_);rintro _ v0 ⟨rfl,e0⟩;have hF:=hF.trans e0 zr;have ba:=e0.cell ba zq;have c4:=e0.cell c4 zq;have c9:=e0.cell c9 zq;have ab:=e0.cell ab zq;have aa:=e0.cell aa zq)|(go_at_call 123;(with_reducible refine (cn.out _ hF).mono ?_);rintro _ v1 ⟨rfl,e1⟩;have hF:=hF.trans e1 zr;have c4:=e1.cell c4 zq;have c9:=e1.cell c9 zq;have ab:=e1.cell ab zq;have aa:=e1.cell aa zq)|(go_at_call 125;(with_reducible refine (ct.out _ hF).mono ?_);rintro _ v2 ⟨rfl,e2⟩;have hF:=hF.trans e2 zr;have c9:=e2.cell c9 zq;have ab:=e2.cell ab zq;have aa:=e2.cell aa zq)|(go_at_call 126;(with_reducible refine (cp.out _ hF).mono ?_);rintro _ v3 ⟨rfl,e3⟩;have hF:=hF.trans e3 zr;have ab:=e3.cell ab zq;have aa:=e3.cell aa zq)|(go_at_call 118;(with_reducible refine (co.out _ hF).mono ?_);rintro _ v4 ⟨rfl,e4⟩;have hF:=hF.trans e4 zr;have aa:=e4.cell aa zq)|(go_at_call 127;(with_reducible refine (cr.out _ hF).mono ?_);rintro _ v5 ⟨rfl,e5⟩;have hF:=hF.trans e5 zr))
    go_ret
    exact ⟨congrArg (fun z=>Ending.returned (.bool z)) hv.out,hF⟩
   cases g2
   ·
    have hv:Hid (false=LB):=ac.out.symm;clear ac;go_wp2_with (first|(go_at_call 122;(with_reducible refine (cq.out _ hF).mono ?_);rintro _ v0 ⟨rfl,e0⟩;have hF:=hF.trans e0 zr;have ba:=e0.cell ba zq;have c4:=e0.cell c4 zq;have c9:=e0.cell c9 zq;have ab:=e0.cell ab zq;have aa:=e0.cell aa zq)|(go_at_call 123;(with_reducible refine (cn.out _ hF).mono ?_);rintro _ v1 ⟨rfl,e1⟩;have hF:=hF.trans e1 zr;have c4:=e1.cell c4 zq;have c9:=e1.cell c9 zq;have ab:=e1.cell ab zq;have aa:=e1.cell aa zq)|(go_at_call 125;(with_reducible refine (ct.out _ hF).mono ?_);rintro _ v2 ⟨rfl,e2⟩;have hF:=hF.trans e2 zr;have c9:=e2.cell c9 zq;have ab:=e2.cell ab zq;have aa:=e2.cell aa zq)|(go_at_call 126;(with_reducible refine (cp.out _ hF).mono ?_);rintro _ v3 ⟨rfl,e3⟩;have hF:=hF.trans e3 zr;have ab:=e3.cell ab zq;have aa:=e3.cell aa zq)|(go_at_call 118;(with_reducible refine (co.out _ hF).mono ?_);rintro _ v4 ⟨rfl,e4⟩;have hF:=hF.trans e4 zr;have aa:=e4.cell aa zq)|(go_at_call 127;(with_reducible refine (cr.out _ hF).mono ?_);rintro _ v5 ⟨rfl,e5⟩;have hF:=hF.trans e5 zr))
    go_ret
    exact ⟨congrArg (fun z=>Ending.returned (.bool z)) hv.out,hF⟩
   cases g3
   ·
    have hv:Hid (false=LB):=ac.out.symm;clear ac;go_wp2_with (first|(go_at_call 122;(with_reducible refine (cq.out _ hF).mono ?_);rintro _ v0 ⟨rfl,e0⟩;have hF:=hF.trans e0 zr;have ba:=e0.cell ba zq;have c4:=e0.cell c4 zq;have c9:=e0.cell c9 zq;have ab:=e0.cell ab zq;have aa:=e0.cell aa zq)|(go_at_call 123;(with_reducible refine (cn.out _ hF).mono ?_);rintro _ v1 ⟨rfl,e1⟩;have hF:=hF.trans e1 zr;have c4:=e1.cell c4 zq;have c9:=e1.cell c9 zq;have ab:=e1.cell ab zq;have aa:=e1.cell aa zq)|(go_at_call 125;(with_reducible refine (ct.out _ hF).mono ?_);rintro _ v2 ⟨rfl,e2⟩;have hF:=hF.trans e2 zr;have c9:=e2.cell c9 zq;have ab:=e2.cell ab zq;have aa:=e2.cell aa zq)|(go_at_call 126;(with_reducible refine (cp.out _ hF).mono ?_);rintro _ v3 ⟨rfl,e3⟩;have hF:=hF.trans e3 zr;have ab:=e3.cell ab zq;have aa:=e3.cell aa zq)|(go_at_call 118;(with_reducible refine (co.out _ hF).mono ?_);rintro _ v4 ⟨rfl,e4⟩;have hF:=hF.trans e4 zr;have aa:=e4.cell aa zq)|(go_at_call 127;(with_reducible refine (cr.out _ hF).mono ?_);rintro _ v5 ⟨rfl,e5⟩;have hF:=hF.trans e5 zr))
    go_ret
    exact ⟨congrArg (fun z=>Ending.returned (.bool z)) hv.out,hF⟩
   cases g4
   ·
    have hv:Hid (false=LB):=ac.out.symm;clear ac;go_wp2_with (first|(go_at_call 122;(with_reducible refine (cq.out _ hF).mono ?_);rintro _ v0 ⟨rfl,e0⟩;have hF:=hF.trans e0 zr;have ba:=e0.cell ba zq;have c4:=e0.cell c4 zq;have c9:=e0.cell c9 zq;have ab:=e0.cell ab zq;have aa:=e0.cell aa zq)|(go_at_call 123;(with_reducible refine (cn.out _ hF).mono ?_);rintro _ v1 ⟨rfl,e1⟩;have hF:=hF.trans e1 zr;have c4:=e1.cell c4 zq;have c9:=e1.cell c9 zq;have ab:=e1.cell ab zq;have aa:=e1.cell aa zq)|(go_at_call 125;(with_reducible refine (ct.out _ hF).mono ?_);rintro _ v2 ⟨rfl,e2⟩;have hF:=hF.trans e2 zr;have c9:=e2.cell c9 zq;have ab:=e2.cell ab zq;have aa:=e2.cell aa zq)|(go_at_call 126;(with_reducible refine (cp.out _ hF).mono ?_);rintro _ v3 ⟨rfl,e3⟩;have hF:=hF.trans e3 zr;have ab:=e3.cell ab zq;have aa:=e3.cell aa zq)|(go_at_call 118;(with_reducible refine (co.out _ hF).mono ?_);rintro _ v4 ⟨rfl,e4⟩;have hF:=hF.trans e4 zr;have aa:=e4.cell aa zq)|(go_at_call 127;(with_reducible refine (cr.out _ hF).mono ?_);rintro _ v5 ⟨rfl,e5⟩;have hF:=hF.trans e5 zr))
    go_ret
    exact ⟨congrArg (fun z=>Ending.returned (.bool z)) hv.out,hF⟩
   cases g5
   ·
    have hv:Hid (false=LB):=ac.out.symm;clear ac;go_wp2_with (first|(go_at_call 122;(with_reducible refine (cq.out _ hF).mono ?_);rintro _ v0 ⟨rfl,e0⟩;have hF:=hF.trans e0 zr;have ba:=e0.cell ba zq;have c4:=e0.cell c4 zq;have c9:=e0.cell c9 zq;have ab:=e0.cell ab zq;have aa:=e0.cell aa zq)|(go_at_call 123;(with_reducible refine (cn.out _ hF).mono ?_);rintro _ v1 ⟨rfl,e1⟩;have hF:=hF.trans e1 zr;have c4:=e1.cell c4 zq;have c9:=e1.cell c9 zq;have ab:=e1.cell ab zq;have aa:=e1.cell aa zq)|(go_at_call 125;(with_reducible refine (ct.out _ hF).mono ?_);rintro _ v2 ⟨rfl,e2⟩;have hF:=hF.trans e2 zr;have c9:=e2.cell c9 zq;have ab:=e2.cell ab zq;have aa:=e2.cell aa zq)|(go_at_call 126;(with_reducible refine (cp.out _ hF).mono ?_);rintro _ v3 ⟨rfl,e3⟩;have hF:=hF.trans e3 zr;have ab:=e3.cell ab zq;have aa:=e3.cell aa zq)|(go_at_call 118;(with_reducible refine (co.out _ hF).mono ?_);rintro _ v4 ⟨rfl,e4⟩;have hF:=hF.trans e4 zr;have aa:=e4.cell aa zq)|(go_at_call 127;(with_reducible refine (cr.out _ hF).mono ?_);rintro _ v5 ⟨rfl,e5⟩;have hF:=hF.trans e5 zr))
    go_ret
    exact ⟨congrArg (fun z=>Ending.returned (.bool z)) hv.out,hF⟩
   have hv:Hid (g6=LB):=ac.out.symm;clear ac;go_wp2_with (first|(go_at_call 122;(with_reducible refine (cq.out _ hF).mono ?_);rintro _ v0 ⟨rfl,e0⟩;have hF:=hF.trans e0 zr;have ba:=e0.cell ba zq;have c4:=e0.cell c4 zq;have c9:=e0.cell c9 zq;have ab:=e0.cell ab zq;have aa:=e0.cell aa zq)|(go_at_call 123;(with_reducible refine (cn.out _ hF).mono ?_);rintro _ v1 ⟨rfl,e1⟩;have hF:=hF.trans e1 zr;have c4:=e1.cell c4 zq;have c9:=e1.cell c9 zq;have ab:=e1.cell ab zq;have aa:=e1.cell aa zq)|(go_at_call 125;(with_reducible refine (ct.out _ hF).mono ?_);rintro _ v2 ⟨rfl,e2⟩;have hF:=hF.trans e2 zr;have c9:=e2.cell c9 zq;have ab:=e2.cell ab zq;have aa:=e2.cell aa zq)|(go_at_call 126;(with_reducible refine (cp.out _ hF).mono ?_);rintro _ v3 ⟨rfl,e3⟩;have hF:=hF.trans e3 zr;have ab:=e3.cell ab zq;have aa:=e3.cell aa zq)|(go_at_call 118;(with_reducible refine (co.out _ hF).mono ?_);rintro _ v4 ⟨rfl,e4⟩;have hF:=hF.trans e4 zr;have aa:=e4.cell aa zq)|(go_at_call 127;(with_reducible refine (cr.out _ hF).mono ?_);rintro _ v5 ⟨rfl,e5⟩;have hF:=hF.trans e5 zr))
   go_ret
   exact ⟨congrArg (fun z=>Ending.returned (.bool z)) hv.out,hF⟩
  ·
   intro k v w3 eu hv fv d5 e9 e7 fp fo;clear cq cn ct cp co cr c4 c9 ba cc ab aa;obtain ⟨c,rfl,fn⟩:=ca.entry hv;obtain ⟨y,fb,fi⟩:=Option.map_eq_some_iff.1 fn;have ff:=List.find?_some fb;obtain ⟨j,hj,hk,fc⟩:=Y5 x y (List.mem_of_find?_eq_some fb);obtain rfl:y.2.1=k:=by simpa using ff
   rw [hk] at fv d5 fo ⊢;have hc:x.mayB j=c:=by rw [← fc,fi]
   have fj:Fr (fun k=>some w1.heap.size=some k) wr w3:=Fr.grown (Fr.refl _ _) e7 (fun k hk _=>hk);have fd:Fr Non w w3:=hF.trans fj (fun i hi e=>by cases e;have:=e8;omega);have ey:Fr (fun k=>w1.heap.size≤k) w2 w3:=d6.trans fj (fun i hi e=>by cases e;exact Nat.le_refl _);have ft:w3.rangeLeft b w1.heap.size<wr.rangeLeft b w1.heap.size:=by rw [d5.left_eq,d7.left_eq];exact e9
   have fk:=Xw has j hhas hj;have fw:(bits .and .i64 (has:Int) ((2^j:Nat):Int) !=0)=has.testBit j:=by rw [bne,← Bool.not_not (has.testBit j),← fk];rfl
   have ek:=Lib.hid (RA.step (x:=x) (has:=has) (j:=j) ev hj);have ez:=Lib.hid (fun h1 h2=>Y7 (x:=x) (has:=has) hj h1 h2);generalize hpj:((2^j:Nat):Int)=pj at*;clear hv fn fb fi ff hk fc d7 fk ca;generalize htb:has.testBit j=tb at*;generalize x.mayB j=mj at*;subst hc
   cases tb<;>cases mj
   case true.false=>
    have hv:Hid (false=LB):=by show _=_;rw [ac.out,ez.out rfl rfl];rfl
    clear ac ez ek;go_wp2_with (fail)
    go_ret
    exact ⟨congrArg (fun z=>Ending.returned (.bool z)) hv.out,fd⟩
   all_goals
    clear ez ac;go_wp2_with (fail);exact ⟨⟨_,eu,d5,ek.out (by decide),fd,ey⟩,ft⟩
end Oq
end
section
open Go.RowKit
attribute [local go_sem ↓] Go.wp_at_zero Go.wp_at_succ
namespace Oq
attribute [local go_sem] Bool.not_false Bool.not_true
theorem E5 {α:Type} (l:List α) (q:α→Bool) {k:Nat} {x:α} (h:l[k]? =some x):(l.take (k+1)).all q=((l.take k).all q&&q x):=by
 obtain ⟨hk,rfl⟩:=List.getElem?_eq_some_iff.1 h;rw [List.take_succ_eq_append_getElem hk,List.all_append];simp
theorem Qi (B n c : Nat) (A : Option Addr) (l : List Bx) (w : World) (hn : Hid (l.length = n)) (hr : Rd w B 4 A n (l.flatMap Bx.cells)) (hnm : n ≤ 1000000) :
    Calls Tryz.prog 167 #[.slice A n c] w (Ad (l.all Bx.may) w) := by
  go_enter Tryz.func167, Tryz.ntmps167;go_wp2
  go_loopw [3] (fun v wr => ∃ k : Nat, v = .int .i64 (k : Int) ∧ k ≤ n ∧ Hid ((l.take k).all Bx.may = true) ∧ Fr Non w wr) (fun v _ => n - (intOf v).toNat)
  case atStart => exact ⟨0, rfl, by omega, rfl, Fr.refl _ _⟩
  case round =>
    obtain ⟨k, rfl, hk, hh, hf⟩ := hrel
    by_cases hlt : k < n
    · have i1 : (0 : Int) ≤ k := by omega
      have i2 : (k : Int) < n := by omega
      have i3 : (k : Int).toNat = k := by omega
      obtain ⟨x, hx⟩ : ∃ x, l[k]? = some x := ⟨_, Am6 (by rw [hn.out]; exact hlt)⟩;obtain ⟨b, off, rfl, hbB, k0, k1, k2, k3⟩ := Bx.at (hr.fr hf (fun _ _ e => e)) hx;have hmem := Am7 hx;have hsn : Hid ((l.take (k + 1)).all Bx.may = ((l.take k).all Bx.may && Bx.may x)) := E5 l Bx.may hx;have hno : Hid (Bx.may x = false → l.all Bx.may = false) := fun h => List.all_eq_false.2 ⟨x, hmem, by rw [h]; simp⟩;have hmay : Hid (Bx.may x = (Au x.t && Au x.e && fOk x.y && fOk x.g)) := rfl;rw [hmay.out] at hsn hno;have q1 := Lib.hid (fun w' => Ip x.t w');have q2 := Lib.hid (fun w' => Ip x.e w');have q3 := Lib.hid (fun w' => Ir x.y w');have q4 := Lib.hid (fun w' => Ir x.g w');clear hx hmem hmay;generalize Au x.t = b1 at *;generalize Au x.e = b2 at *;generalize fOk x.y = b3 at *;generalize fOk x.g = b4 at *;have tok1 : True := trivial;have tok3 : True := trivial
      cases b1 <;> cases b2 <;> cases b3 <;> cases b4
      all_goals
        go_wp2_with (first
          | (have _t := tok1; go_at_call 165; (with_reducible refine (q1.out _).mono ?_); rintro _ w1 ⟨rfl, f1⟩; have k1' := f1.cell k1 (fun e => e); have k2' := f1.cell k2 (fun e => e); have k3' := f1.cell k3 (fun e => e); have fz1 := hf.trans f1 (fun _ _ e => e); clear tok1 _t)
          | (go_at_call 165; (with_reducible refine (q2.out _).mono ?_); rintro _ w2 ⟨rfl, f2⟩; have k2'' := f2.cell k2' (fun e => e); have k3'' := f2.cell k3' (fun e => e); have fz2 := fz1.trans f2 (fun _ _ e => e))
          | (have _t := tok3; go_at_call 166; (with_reducible refine (q3.out _).mono ?_); rintro _ w3 ⟨rfl, f3⟩; have k3''' := f3.cell k3'' (fun e => e); have fz3 := fz2.trans f3 (fun _ _ e => e); clear tok3 _t)
          | (go_at_call 166; (with_reducible refine (q4.out _).mono ?_); rintro _ w4 ⟨rfl, f4⟩; have fz4 := fz3.trans f4 (fun _ _ e => e)))
        first
          | (go_ret; first | exact ⟨by rw [hno.out rfl]; rfl, fz4⟩ | exact ⟨by rw [hno.out rfl]; rfl, fz3⟩ | exact ⟨by rw [hno.out rfl]; rfl, fz2⟩ | exact ⟨by rw [hno.out rfl]; rfl, fz1⟩)
          | (go_roundw
             case rel => exact ⟨k + 1, by go_num, by omega, by show _ = _; rw [hsn.out, hh.out]; rfl, fz4⟩
             case measure => simp [intOf]; omega)
    · obtain rfl : k = n := by omega
      have hfin : Hid (l.all Bx.may = true) := by have h := hh.out; rw [Am8 (by rw [hn.out]; omega)] at h; exact h
      go_wp2
      go_ret
      exact ⟨by rw [hfin.out]; rfl, hf⟩
def OpL.itemsR (x:OpL):Bool:=x.guards.all (fun n=>inR n 1 12)&&(x.refs.all fOk&&(x.past.all Id.named&&(x.path.all (fun y=>Au y.p&&y.xs.all Bx.may)&&(x.hist.all (fun y=>y.f.named)&&x.boxes.all Bx.may))))
theorem Y9 (x:OpL) (w:World) (hat:x.at w w.heap.size) (hok:x.op.ok):Calls Tryz.prog 108 #[.agg x.cells] w (Ad x.itemsR w):=by
 have a6:=Blk.new w 44 x.cells;have f0:Fr Non w (w.alloc (.cells x.cells 44)):=(Fr.refl Non w).alloc _;have c4:(w.alloc (.cells x.cells 44)).cell? ⟨w.heap.size,4,none⟩=some (.slice x.pastA x.past.length x.pastC):=a6.cell 4;have c9:(w.alloc (.cells x.cells 44)).cell? ⟨w.heap.size,9,none⟩=some (.slice x.pathA x.path.length x.pathC):=a6.cell 9;have bf:(w.alloc (.cells x.cells 44)).cell? ⟨w.heap.size,15,none⟩=some (.slice x.refsA x.refs.length x.refsC):=a6.cell 15;have bg:(w.alloc (.cells x.cells 44)).cell? ⟨w.heap.size,19,none⟩=some (.slice x.guardsA x.guards.length x.guardsC):=a6.cell 19;have bh:(w.alloc (.cells x.cells 44)).cell? ⟨w.heap.size,22,none⟩=some (.slice x.boxesA x.boxes.length x.boxesC):=a6.cell 22;have be:(w.alloc (.cells x.cells 44)).cell? ⟨w.heap.size,24,none⟩=some (.slice x.histA x.hist.length x.histC):=a6.cell 24;have a2:x.guards.length≤1000000:=by have h:=hok.guards.1;rw [show x.op.guards=x.guards from rfl] at h;omega
 have ba:x.refs.length≤1000000:=by have h:=hok.refs.1;rw [show x.op.refs=x.refs from rfl] at h;omega
 have ay:x.boxes.length≤1000000:=by have h:=hok.boxes.1;rw [show x.op.boxes=x.boxes from rfl] at h;omega
 have a4:Hid (∀y∈x.path,y.xs.length≤1000000):=fun y hy=>by have h:=(hok.path.2 y.nd (List.mem_map.2 ⟨y,hy,rfl⟩)).2.1;rw [show y.nd.xs=y.xs from rfl] at h;omega
 have a9:x.past.length≤1000000:=by have h:=hok.past.1;rw [show x.op.past=x.past from rfl] at h;omega
 have bb:x.path.length≤1000000:=by have h:=hok.path.1;rw [show x.op.path=x.path.map NdL.nd from rfl,Am9] at h;omega
 have a8:x.hist.length≤1000000:=by have h:=hok.hist.1;rw [show x.op.hist=x.hist.map SlL.sl from rfl,Am9] at h;omega
 have a5:Hid (∀y∈x.path,y.at (w.alloc (.cells x.cells 44)) w.heap.size):=fun y hy=>(hat.nodes y hy).fr f0 zr;have ax:=hat.past.1.fr f0 zr;have a0:=hat.path.1.fr f0 zr;have aw:=hat.refs.1.fr f0 zr;have ar:=hat.guards.1.fr f0 zr;have a1:=hat.boxes.1.fr f0 zr;have az:=hat.hist.1.fr f0 zr;have aa:Hid (x.itemsR=(x.guards.all (fun n=>inR n 1 12)&&(x.refs.all fOk&&(x.past.all Id.named&&(x.path.all (fun y=>Au y.p&&y.xs.all Bx.may)&&(x.hist.all (fun y=>y.f.named)&&x.boxes.all Bx.may)))))):=rfl;generalize x.itemsR=LB at*;obtain ⟨ai,ag⟩:=Aa x.past.length;rw [ag.out] at ax a9 c4;obtain ⟨ak,ah⟩:=Aa x.path.length;rw [ah.out] at a0 bb c9;obtain ⟨al,ae⟩:=Aa x.refs.length;rw [ae.out] at aw ba bf;obtain ⟨ab,ac⟩:=Aa x.guards.length;rw [ac.out] at ar a2 bg;obtain ⟨a3,au⟩:=Aa x.boxes.length;rw [au.out] at a1 ay bh;obtain ⟨aj,af⟩:=Aa x.hist.length;rw [af.out] at az a8 be;generalize x.cells=CS at*;clear a6 hat hok;go_enter Tryz.func108,Tryz.ntmps108;go_upto_region 1 with (fail)
 generalize w.alloc (.cells CS 44)=w0 at*;go_wp2_with (fail)
 go_loopw [3] (fun v wr=>∃k:Nat,v=.int .i64 (k:Int)∧k≤ab∧Hid ((x.guards.take k).all (fun n=>inR n 1 12)=true)∧Fr Non w0 wr) (fun v _=>ab-(intOf v).toNat)
 case atStart=>exact ⟨0,rfl,by omega,rfl,Fr.refl _ _⟩
 case round=>
  obtain ⟨k,rfl,hk,hh,hf⟩:=hrel;have cc:=hf.cell bg zq
  by_cases hlt:k<ab
  ·
   have i1:(0:Int)≤k:=by omega
   have i2:(k:Int)<ab:=by omega
   have i3:(k:Int).toNat=k:=by omega
   obtain ⟨y,hy⟩:∃y,x.guards[k]? =some y:=⟨_,Am6 (by rw [ac.out];exact hlt)⟩;obtain ⟨b,a7,u,hA,bd,hu,k0⟩:=(ar.fr hf zr).at hlt;rw [An0,hy] at hu;obtain rfl:=(Option.some.inj hu).symm;replace k0:wr.cell? ⟨b,a7+k,none⟩=some (.int .i64 y):=k0;rw [hA] at cc;have ad:=Am7 hy;have ap:Hid ((x.guards.take (k+1)).all (fun n=>inR n 1 12)=((x.guards.take k).all (fun n=>inR n 1 12)&&inR y 1 12)):=E5 x.guards (fun n=>inR n 1 12) hy;have ao:Hid (inR y 1 12=false→x.guards.all (fun n=>inR n 1 12)=false):=fun h=>List.all_eq_false.2 ⟨y,ad,by rw [h];simp⟩;clear hy ad;have kc:=Lib.hid (fun w'=>Ge y 1 12 w');generalize inR y 1 12=pb at*
   cases pb
   ·
    have hv:Hid (false=LB):=by show _=_;rw [aa.out,ao.out rfl];rfl
    clear aa ao ap;go_wp2_with (go_at_call 163;(with_reducible refine (kc.out _).mono ?_);rintro _ w1 ⟨rfl,f1⟩)
    go_ret
    exact ⟨congrArg (fun z=>Ending.returned (.bool z)) hv.out,(f0.trans hf zr).trans f1 zr⟩
   ·
    have aq:Hid ((x.guards.take (k+1)).all (fun n=>inR n 1 12)=true):=by show _=_;rw [ap.out,hh.out];rfl
    clear ao ap;go_wp2_with (go_at_call 163;(with_reducible refine (kc.out _).mono ?_);rintro _ w1 ⟨rfl,f1⟩);go_roundw
    case rel=>exact ⟨k+1,by go_num,by omega,aq,hf.trans f1 zr⟩
    case measure=>simp [intOf];omega
  ·
   obtain rfl:ab=k:=by omega
   have av:x.guards.all (fun n=>inR n 1 12)=true:=by have h:=hh.out;rw [Am8 (by rw [ac.out];omega)] at h;exact h
   replace aa:Hid (LB=(x.refs.all fOk&&(x.past.all Id.named&&(x.path.all (fun y=>Au y.p&&y.xs.all Bx.may)&&(x.hist.all (fun y=>y.f.named)&&(x.boxes.all Bx.may)))))):=by show _=_;rw [aa.out,av];rfl
   clear av hh ar ac hlt hk;go_wp2_with (fail)
   go_loopw [4] (fun v wr=>∃k:Nat,v=.int .i64 (k:Int)∧k≤al∧Hid ((x.refs.take k).all fOk=true)∧Fr Non w0 wr) (fun v _=>al-(intOf v).toNat)
   case atStart=>exact ⟨0,rfl,by omega,rfl,hf⟩
   case round=>
    obtain ⟨k,rfl,hk,hh,hf⟩:=hrel;have cc:=hf.cell bf zq
    by_cases hlt:k<al
    ·
     have i1:(0:Int)≤k:=by omega
     have i2:(k:Int)<al:=by omega
     have i3:(k:Int).toNat=k:=by omega
     obtain ⟨y,hy⟩:∃y,x.refs[k]? =some y:=⟨_,Am6 (by rw [ae.out];exact hlt)⟩;obtain ⟨b,a7,u,hA,bd,hu,k0⟩:=(aw.fr hf zr).at hlt;rw [An0,hy] at hu;obtain rfl:=(Option.some.inj hu).symm;replace k0:wr.cell? ⟨b,a7+k,none⟩=some (.int .u64 (y:Int)):=k0;rw [hA] at cc;have ad:=Am7 hy;have ap:Hid ((x.refs.take (k+1)).all fOk=((x.refs.take k).all fOk&&fOk y)):=E5 x.refs fOk hy;have ao:Hid (fOk y=false→x.refs.all fOk=false):=fun h=>List.all_eq_false.2 ⟨y,ad,by rw [h];simp⟩;clear hy ad;have kc:=Lib.hid (fun w'=>Ir y w');generalize fOk y=pb at*
     cases pb
     ·
      have hv:Hid (false=LB):=by show _=_;rw [aa.out,ao.out rfl];rfl
      clear aa ao ap;go_wp2_with (go_at_call 166;(with_reducible refine (kc.out _).mono ?_);rintro _ w1 ⟨rfl,f1⟩)
      go_ret
      exact ⟨congrArg (fun z=>Ending.returned (.bool z)) hv.out,(f0.trans hf zr).trans f1 zr⟩
     ·
      have aq:Hid ((x.refs.take (k+1)).all fOk=true):=by show _=_;rw [ap.out,hh.out];rfl
      clear ao ap;go_wp2_with (go_at_call 166;(with_reducible refine (kc.out _).mono ?_);rintro _ w1 ⟨rfl,f1⟩);go_roundw
      case rel=>exact ⟨k+1,by go_num,by omega,aq,hf.trans f1 zr⟩
      case measure=>simp [intOf];omega
    ·
     obtain rfl:al=k:=by omega
     have av:x.refs.all fOk=true:=by have h:=hh.out;rw [Am8 (by rw [ae.out];omega)] at h;exact h
     replace aa:Hid (LB=(x.past.all Id.named&&(x.path.all (fun y=>Au y.p&&y.xs.all Bx.may)&&(x.hist.all (fun y=>y.f.named)&&(x.boxes.all Bx.may))))):=by show _=_;rw [aa.out,av];rfl
     clear av hh aw ae hlt hk;go_wp2_with (fail)
     go_loopw [5] (fun v wr=>∃k:Nat,v=.int .i64 (k:Int)∧k≤ai∧Hid ((x.past.take k).all Id.named=true)∧Fr Non w0 wr) (fun v _=>ai-(intOf v).toNat)
     case atStart=>exact ⟨0,rfl,by omega,rfl,hf⟩
     case round=>
      obtain ⟨k,rfl,hk,hh,hf⟩:=hrel;have cc:=hf.cell c4 zq
      by_cases hlt:k<ai
      ·
       have i1:(0:Int)≤k:=by omega
       have i2:(k:Int)<ai:=by omega
       have i3:(k:Int).toNat=k:=by omega
       obtain ⟨y,hy⟩:∃y,x.past[k]? =some y:=⟨_,Am6 (by rw [ag.out];exact hlt)⟩;obtain ⟨b,a7,hA,bd,k0,k1,k2⟩:=Id.at (ax.fr hf zr) hy;rw [hA] at cc;have ad:=Am7 hy;have ap:Hid ((x.past.take (k+1)).all Id.named=((x.past.take k).all Id.named&&y.named)):=E5 x.past Id.named hy;have ao:Hid (y.named=false→x.past.all Id.named=false):=fun h=>List.all_eq_false.2 ⟨y,ad,by rw [h];simp⟩;clear hy ad;have kc:=Lib.hid (fun w'=>Ku y w');generalize y.named=pb at*
       cases pb
       ·
        have hv:Hid (false=LB):=by show _=_;rw [aa.out,ao.out rfl];rfl
        clear aa ao ap;go_wp2_with (go_at_call 164;(with_reducible refine (kc.out _).mono ?_);rintro _ w1 ⟨rfl,f1⟩)
        go_ret
        exact ⟨congrArg (fun z=>Ending.returned (.bool z)) hv.out,(f0.trans hf zr).trans f1 zr⟩
       ·
        have aq:Hid ((x.past.take (k+1)).all Id.named=true):=by show _=_;rw [ap.out,hh.out];rfl
        clear ao ap;go_wp2_with (go_at_call 164;(with_reducible refine (kc.out _).mono ?_);rintro _ w1 ⟨rfl,f1⟩);go_roundw
        case rel=>exact ⟨k+1,by go_num,by omega,aq,hf.trans f1 zr⟩
        case measure=>simp [intOf];omega
      ·
       obtain rfl:ai=k:=by omega
       have av:x.past.all Id.named=true:=by have h:=hh.out;rw [Am8 (by rw [ag.out];omega)] at h;exact h
       replace aa:Hid (LB=(x.path.all (fun y=>Au y.p&&y.xs.all Bx.may)&&(x.hist.all (fun y=>y.f.named)&&(x.boxes.all Bx.may)))):=by show _=_;rw [aa.out,av];rfl
       clear av hh ax ag hlt hk;go_wp2_with (fail)
       go_loopw [6] (fun v wr=>∃k:Nat,v=.int .i64 (k:Int)∧k≤ak∧Hid ((x.path.take k).all (fun y=>Au y.p&&y.xs.all Bx.may)=true)∧Fr Non w0 wr) (fun v _=>ak-(intOf v).toNat)
       case atStart=>exact ⟨0,rfl,by omega,rfl,hf⟩
       case round=>
        obtain ⟨k,rfl,hk,hh,hf⟩:=hrel;have cc:=hf.cell c9 zq
        by_cases hlt:k<ak
        ·
         have i1:(0:Int)≤k:=by omega
         have i2:(k:Int)<ak:=by omega
         have i3:(k:Int).toNat=k:=by omega
         obtain ⟨y,hy⟩:∃y,x.path[k]? =some y:=⟨_,Am6 (by rw [ah.out];exact hlt)⟩;obtain ⟨b,a7,hA,bd,k0,k1⟩:=NdL.el (a0.fr hf zr) hy;rw [hA] at cc;have ad:=Am7 hy;have ap:Hid ((x.path.take (k+1)).all (fun y=>Au y.p&&y.xs.all Bx.may)=((x.path.take k).all (fun y=>Au y.p&&y.xs.all Bx.may)&&(Au y.p&&y.xs.all Bx.may))):=E5 x.path (fun y=>Au y.p&&y.xs.all Bx.may) hy;have ao:Hid ((Au y.p&&y.xs.all Bx.may)=false→x.path.all (fun y=>Au y.p&&y.xs.all Bx.may)=false):=fun h=>List.all_eq_false.2 ⟨y,ad,by rw [h];simp⟩;have bj:=(a5.out y ad).fr hf zr;have bi:=a4.out y ad;clear hy ad;have kc:=Lib.hid (fun w'=>Ip y.p w');have kd:=Lib.hid (fun w' (h:Fr Non wr w')=>Qi w.heap.size y.xs.length y.c y.A y.xs w' rfl (bj.1.fr h zr) bi);generalize Au y.p=pb at*;generalize y.xs.all Bx.may=pd at*
         cases pb
         ·
          have hv:Hid (false=LB):=by show _=_;rw [aa.out,ao.out rfl];rfl
          clear aa ao ap;go_wp2_with (first|(go_at_call 165;(with_reducible refine (kc.out _).mono ?_);rintro _ w1 ⟨rfl,f1⟩;have cc:=f1.cell cc zq;have k0:=f1.cell k0 zq;have k1:=f1.cell k1 zq)|(go_at_call 167;(with_reducible refine (kd.out _ f1).mono ?_);rintro _ w2 ⟨rfl,f2⟩;have bc:=f1.trans f2 zr))
          go_ret
          exact ⟨congrArg (fun z=>Ending.returned (.bool z)) hv.out,(f0.trans hf zr).trans f1 zr⟩
         cases pd
         ·
          have hv:Hid (false=LB):=by show _=_;rw [aa.out,ao.out rfl];rfl
          clear aa ao ap;go_wp2_with (first|(go_at_call 165;(with_reducible refine (kc.out _).mono ?_);rintro _ w1 ⟨rfl,f1⟩;have cc:=f1.cell cc zq;have k0:=f1.cell k0 zq;have k1:=f1.cell k1 zq)|(go_at_call 167;(with_reducible refine (kd.out _ f1).mono ?_);rintro _ w2 ⟨rfl,f2⟩;have bc:=f1.trans f2 zr))
          go_ret
          exact ⟨congrArg (fun z=>Ending.returned (.bool z)) hv.out,(f0.trans hf zr).trans bc zr⟩
         ·
          have aq:Hid ((x.path.take (k+1)).all (fun y=>Au y.p&&y.xs.all Bx.may)=true):=by show _=_;rw [ap.out,hh.out];rfl
          clear ao ap;go_wp2_with (first|(go_at_call 165;(with_reducible refine (kc.out _).mono ?_);rintro _ w1 ⟨rfl,f1⟩;have cc:=f1.cell cc zq;have k0:=f1.cell k0 zq;have k1:=f1.cell k1 zq)|(go_at_call 167;(with_reducible refine (kd.out _ f1).mono ?_);rintro _ w2 ⟨rfl,f2⟩;have bc:=f1.trans f2 zr));go_roundw
          case rel=>exact ⟨k+1,by go_num,by omega,aq,hf.trans bc zr⟩
          case measure=>simp [intOf];omega
        ·
         obtain rfl:ak=k:=by omega
         have av:x.path.all (fun y=>Au y.p&&y.xs.all Bx.may)=true:=by have h:=hh.out;rw [Am8 (by rw [ah.out];omega)] at h;exact h
         replace aa:Hid (LB=(x.hist.all (fun y=>y.f.named)&&(x.boxes.all Bx.may))):=by show _=_;rw [aa.out,av];rfl
         clear av hh a0 ah hlt hk;go_wp2_with (fail)
         go_loopw [7] (fun v wr=>∃k:Nat,v=.int .i64 (k:Int)∧k≤aj∧Hid ((x.hist.take k).all (fun y=>y.f.named)=true)∧Fr Non w0 wr) (fun v _=>aj-(intOf v).toNat)
         case atStart=>exact ⟨0,rfl,by omega,rfl,hf⟩
         case round=>
          obtain ⟨k,rfl,hk,hh,hf⟩:=hrel;have cc:=hf.cell be zq
          by_cases hlt:k<aj
          ·
           have i1:(0:Int)≤k:=by omega
           have i2:(k:Int)<aj:=by omega
           have i3:(k:Int).toNat=k:=by omega
           obtain ⟨y,hy⟩:∃y,x.hist[k]? =some y:=⟨_,Am6 (by rw [af.out];exact hlt)⟩;obtain ⟨b,a7,hA,bd,k0,k1,k2,k3⟩:=SlL.el (az.fr hf zr) hy;rw [hA] at cc;have ad:=Am7 hy;have ap:Hid ((x.hist.take (k+1)).all (fun y=>y.f.named)=((x.hist.take k).all (fun y=>y.f.named)&&y.f.named)):=E5 x.hist (fun y=>y.f.named) hy;have ao:Hid (y.f.named=false→x.hist.all (fun y=>y.f.named)=false):=fun h=>List.all_eq_false.2 ⟨y,ad,by rw [h];simp⟩;clear hy ad;have kc:=Lib.hid (fun w'=>Ku y.f w');generalize y.f.named=pb at*
           cases pb
           ·
            have hv:Hid (false=LB):=by show _=_;rw [aa.out,ao.out rfl];rfl
            clear aa ao ap;go_wp2_with (go_at_call 164;(with_reducible refine (kc.out _).mono ?_);rintro _ w1 ⟨rfl,f1⟩)
            go_ret
            exact ⟨congrArg (fun z=>Ending.returned (.bool z)) hv.out,(f0.trans hf zr).trans f1 zr⟩
           ·
            have aq:Hid ((x.hist.take (k+1)).all (fun y=>y.f.named)=true):=by show _=_;rw [ap.out,hh.out];rfl
            clear ao ap;go_wp2_with (go_at_call 164;(with_reducible refine (kc.out _).mono ?_);rintro _ w1 ⟨rfl,f1⟩);go_roundw
            case rel=>exact ⟨k+1,by go_num,by omega,aq,hf.trans f1 zr⟩
            case measure=>simp [intOf];omega
          ·
           obtain rfl:aj=k:=by omega
           have av:x.hist.all (fun y=>y.f.named)=true:=by have h:=hh.out;rw [Am8 (by rw [af.out];omega)] at h;exact h
           replace aa:Hid (LB=(x.boxes.all Bx.may)):=by show _=_;rw [aa.out,av];rfl
           clear av hh az af hlt hk;have cb:=hf.cell bh zq;have kb:=Lib.hid (Qi w.heap.size a3 x.boxesC x.boxesA x.boxes wr au (a1.fr hf zr) ay);rw [← aa.out] at kb;clear aa;go_wp2_with (go_at_call 167;(with_reducible refine kb.out.mono ?_);rintro _ w2 ⟨rfl,f2⟩)
           go_ret
           exact ⟨rfl,(f0.trans hf zr).trans f2 zr⟩
def OpL.numsR (x:OpL):Bool:=(inR x.by_ 1 12&&inR x.sq 1 2147483647&&inR x.at_ 0 2147483647)&&(
 bif (x.kind==1) then inR x.need 0 20 else
 bif (x.kind==2) then (inR x.dev 1 12&&inR x.role 1 3) else
 bif (x.kind==3) then ((inR x.dev 1 12&&(x.mem==0))||((x.dev==0)&&inR x.mem 1 8)) else
 bif (x.kind==5) then (inR x.mem 1 8&&inR x.role 1 3) else
 bif (x.kind==6) then (x.epoch.named&&inR x.n 0 2147483647) else
 bif (x.kind==9) then (inR x.need 1 x.guards.length&&inR x.wait 0 2147483647&&Au x.pub) else
 bif (x.kind==11) then (x.of.named&&inR x.dev 1 12) else
 bif (x.kind==13) then (x.of.named&&inR x.dev 1 12&&inR x.old 1 12) else
 bif (x.kind==4) then true else
 x.of.named)
theorem Za (x:OpL) (w:World):Calls Tryz.prog 107 #[.agg x.cells] w (Ad x.numsR w):=by
 have ab:=Blk.new w 44 x.cells;have fz:Fr Non w (w.alloc (.cells x.cells 44)):=(Fr.refl Non w).alloc _;have c0:(w.alloc (.cells x.cells 44)).cell? ⟨w.heap.size,0,none⟩=some (.int .i64 x.by_):=ab.cell 0;have c1:(w.alloc (.cells x.cells 44)).cell? ⟨w.heap.size,1,none⟩=some (.int .i64 x.sq):=ab.cell 1;have c2:(w.alloc (.cells x.cells 44)).cell? ⟨w.heap.size,2,none⟩=some (.int .i64 x.kind):=ab.cell 2;have c3:(w.alloc (.cells x.cells 44)).cell? ⟨w.heap.size,3,none⟩=some (.int .i64 x.at_):=ab.cell 3;have c5:(w.alloc (.cells x.cells 44)).cell? ⟨w.heap.size,5,none⟩=some (.int .i64 x.dev):=ab.cell 5;have c6:(w.alloc (.cells x.cells 44)).cell? ⟨w.heap.size,6,none⟩=some (.int .i64 x.old):=ab.cell 6;have c7:(w.alloc (.cells x.cells 44)).cell? ⟨w.heap.size,7,none⟩=some (.int .i64 x.mem):=ab.cell 7;have c8:(w.alloc (.cells x.cells 44)).cell? ⟨w.heap.size,8,none⟩=some (.int .i64 x.role):=ab.cell 8;have ae:(w.alloc (.cells x.cells 44)).cell? ⟨w.heap.size,10,none⟩=some (.int .i64 x.epoch.b):=ab.cell 10;have aj:(w.alloc (.cells x.cells 44)).cell? ⟨w.heap.size,11,none⟩=some (.int .i64 x.epoch.s):=ab.cell 11;have ac:(w.alloc (.cells x.cells 44)).cell? ⟨w.heap.size,12,none⟩=some (.int .u64 (x.epoch.u:Int)):=ab.cell 12;have af:(w.alloc (.cells x.cells 44)).cell? ⟨w.heap.size,13,none⟩=some (.int .i64 x.n):=ab.cell 13;have ag:(w.alloc (.cells x.cells 44)).cell? ⟨w.heap.size,16,none⟩=some (.int .i64 x.of.b):=ab.cell 16;have ah:(w.alloc (.cells x.cells 44)).cell? ⟨w.heap.size,17,none⟩=some (.int .i64 x.of.s):=ab.cell 17;have ai:(w.alloc (.cells x.cells 44)).cell? ⟨w.heap.size,18,none⟩=some (.int .u64 (x.of.u:Int)):=ab.cell 18;have ad:(w.alloc (.cells x.cells 44)).cell? ⟨w.heap.size,19,none⟩=some (.slice x.guardsA x.guards.length x.guardsC):=ab.cell 19;have ao:(w.alloc (.cells x.cells 44)).cell? ⟨w.heap.size,20,none⟩=some (.int .i64 x.need):=ab.cell 20;have ak:(w.alloc (.cells x.cells 44)).cell? ⟨w.heap.size,21,none⟩=some (.int .i64 x.wait):=ab.cell 21;have al:(w.alloc (.cells x.cells 44)).cell? ⟨w.heap.size,23,none⟩=some (.int .u64 (x.pub:Int)):=ab.cell 23;generalize x.cells=CS at*;clear ab;have ax:Hid (x.numsR=x.numsR):=rfl;have aa:Hid (x.numsR=((inR x.by_ 1 12&&inR x.sq 1 2147483647&&inR x.at_ 0 2147483647)&&(
 bif (x.kind==1) then inR x.need 0 20 else
 bif (x.kind==2) then (inR x.dev 1 12&&inR x.role 1 3) else
 bif (x.kind==3) then ((inR x.dev 1 12&&(x.mem==0))||((x.dev==0)&&inR x.mem 1 8)) else
 bif (x.kind==5) then (inR x.mem 1 8&&inR x.role 1 3) else
 bif (x.kind==6) then (x.epoch.named&&inR x.n 0 2147483647) else
 bif (x.kind==9) then (inR x.need 1 x.guards.length&&inR x.wait 0 2147483647&&Au x.pub) else
 bif (x.kind==11) then (x.of.named&&inR x.dev 1 12) else
 bif (x.kind==13) then (x.of.named&&inR x.dev 1 12&&inR x.old 1 12) else
 bif (x.kind==4) then true else
 x.of.named))):=rfl
 generalize hLB:x.numsR=LB at*;clear hLB ax
 rcases zb (inR x.by_ 1 12) with t1|t1
 focus
  rcases zb (inR x.sq 1 2147483647) with t2|t2
  focus
   rcases zb (inR x.at_ 0 2147483647) with t3|t3
   focus
    rcases zb (x.kind==1) with t4|t4
    focus
     have az:(x.kind !=1)=false:=by rw [bne,t4];rfl
     rcases zb (inR x.need 0 20) with t5|t5
     focus
      have hv:Hid (true=LB):=by show _=_;rw [aa.out];simp [t1,t2,t3,t4,t5]
     rotate_left
     focus
      have hv:Hid (false=LB):=by show _=_;rw [aa.out];simp [t1,t2,t3,t4,t5]
    rotate_left 2
    focus
     have az:(x.kind !=1)=true:=by rw [bne,t4];rfl
     rcases zb (x.kind==2) with t6|t6
     focus
      have a0:(x.kind !=2)=false:=by rw [bne,t6];rfl
      rcases zb (inR x.dev 1 12) with t7|t7
      focus
       rcases zb (inR x.role 1 3) with t8|t8
       focus
        have hv:Hid (true=LB):=by show _=_;rw [aa.out];simp [t1,t2,t3,t4,t6,t7,t8]
       rotate_left
       focus
        have hv:Hid (false=LB):=by show _=_;rw [aa.out];simp [t1,t2,t3,t4,t6,t7,t8]
      rotate_left 2
      focus
       have hv:Hid (false=LB):=by show _=_;rw [aa.out];simp [t1,t2,t3,t4,t6,t7]
     rotate_left 3
     focus
      have a0:(x.kind !=2)=true:=by rw [bne,t6];rfl
      rcases zb (x.kind==3) with t9|t9
      focus
       have ay:(x.kind !=3)=false:=by rw [bne,t9];rfl
       rcases zb (inR x.dev 1 12) with t10|t10
       focus
        rcases zb (x.mem==0) with t11|t11
        focus
         have hv:Hid (true=LB):=by show _=_;rw [aa.out];simp [t1,t2,t3,t4,t6,t9,t10,t11]
        rotate_left
        focus
         rcases zb (x.dev==0) with t12|t12
         focus
          rcases zb (inR x.mem 1 8) with t13|t13
          focus
           have hv:Hid (true=LB):=by show _=_;rw [aa.out];simp [t1,t2,t3,t4,t6,t9,t10,t11,t12,t13]
          rotate_left
          focus
           have hv:Hid (false=LB):=by show _=_;rw [aa.out];simp [t1,t2,t3,t4,t6,t9,t10,t11,t12,t13]
         rotate_left 2
         focus
          have hv:Hid (false=LB):=by show _=_;rw [aa.out];simp [t1,t2,t3,t4,t6,t9,t10,t11,t12]
       rotate_left 4
       focus
        rcases zb (x.dev==0) with t14|t14
        focus
         rcases zb (inR x.mem 1 8) with t15|t15
         focus
          have hv:Hid (true=LB):=by show _=_;rw [aa.out];simp [t1,t2,t3,t4,t6,t9,t10,t14,t15]
         rotate_left
         focus
          have hv:Hid (false=LB):=by show _=_;rw [aa.out];simp [t1,t2,t3,t4,t6,t9,t10,t14,t15]
        rotate_left 2
        focus
         have hv:Hid (false=LB):=by show _=_;rw [aa.out];simp [t1,t2,t3,t4,t6,t9,t10,t14]
      rotate_left 7
      focus
       have ay:(x.kind !=3)=true:=by rw [bne,t9];rfl
       rcases zb (x.kind==5) with t16|t16
       focus
        have ap:(x.kind !=5)=false:=by rw [bne,t16];rfl
        rcases zb (inR x.mem 1 8) with t17|t17
        focus
         rcases zb (inR x.role 1 3) with t18|t18
         focus
          have hv:Hid (true=LB):=by show _=_;rw [aa.out];simp [t1,t2,t3,t4,t6,t9,t16,t17,t18]
         rotate_left
         focus
          have hv:Hid (false=LB):=by show _=_;rw [aa.out];simp [t1,t2,t3,t4,t6,t9,t16,t17,t18]
        rotate_left 2
        focus
         have hv:Hid (false=LB):=by show _=_;rw [aa.out];simp [t1,t2,t3,t4,t6,t9,t16,t17]
       rotate_left 3
       focus
        have ap:(x.kind !=5)=true:=by rw [bne,t16];rfl
        rcases zb (x.kind==6) with t19|t19
        focus
         have au:(x.kind !=6)=false:=by rw [bne,t19];rfl
         rcases zb (x.epoch.named) with t20|t20
         focus
          rcases zb (inR x.n 0 2147483647) with t21|t21
          focus
           have hv:Hid (true=LB):=by show _=_;rw [aa.out];simp [t1,t2,t3,t4,t6,t9,t16,t19,t20,t21]
          rotate_left
          focus
           have hv:Hid (false=LB):=by show _=_;rw [aa.out];simp [t1,t2,t3,t4,t6,t9,t16,t19,t20,t21]
         rotate_left 2
         focus
          have hv:Hid (false=LB):=by show _=_;rw [aa.out];simp [t1,t2,t3,t4,t6,t9,t16,t19,t20]
        rotate_left 3
        focus
         have au:(x.kind !=6)=true:=by rw [bne,t19];rfl
         rcases zb (x.kind==9) with t22|t22
         focus
          have aw:(x.kind !=9)=false:=by rw [bne,t22];rfl
          rcases zb (inR x.need 1 x.guards.length) with t23|t23
          focus
           rcases zb (inR x.wait 0 2147483647) with t24|t24
           focus
            rcases zb (Au x.pub) with t25|t25
            focus
             have hv:Hid (true=LB):=by show _=_;rw [aa.out];simp [t1,t2,t3,t4,t6,t9,t16,t19,t22,t23,t24,t25]
            rotate_left
            focus
             have hv:Hid (false=LB):=by show _=_;rw [aa.out];simp [t1,t2,t3,t4,t6,t9,t16,t19,t22,t23,t24,t25]
           rotate_left 2
           focus
            have hv:Hid (false=LB):=by show _=_;rw [aa.out];simp [t1,t2,t3,t4,t6,t9,t16,t19,t22,t23,t24]
          rotate_left 3
          focus
           have hv:Hid (false=LB):=by show _=_;rw [aa.out];simp [t1,t2,t3,t4,t6,t9,t16,t19,t22,t23]
         rotate_left 4
         focus
          have aw:(x.kind !=9)=true:=by rw [bne,t22];rfl
          rcases zb (x.kind==11) with t26|t26
          focus
           have av:(x.kind !=11)=false:=by rw [bne,t26];rfl
           rcases zb (x.of.named) with t27|t27
           focus
            rcases zb (inR x.dev 1 12) with t28|t28
            focus
             have hv:Hid (true=LB):=by show _=_;rw [aa.out];simp [t1,t2,t3,t4,t6,t9,t16,t19,t22,t26,t27,t28]
            rotate_left
            focus
             have hv:Hid (false=LB):=by show _=_;rw [aa.out];simp [t1,t2,t3,t4,t6,t9,t16,t19,t22,t26,t27,t28]
           rotate_left 2
           focus
            have hv:Hid (false=LB):=by show _=_;rw [aa.out];simp [t1,t2,t3,t4,t6,t9,t16,t19,t22,t26,t27]
          rotate_left 3
          focus
           have av:(x.kind !=11)=true:=by rw [bne,t26];rfl
           rcases zb (x.kind==13) with t29|t29
           focus
            have aq:(x.kind !=13)=false:=by rw [bne,t29];rfl
            rcases zb (x.of.named) with t30|t30
            focus
             rcases zb (inR x.dev 1 12) with t31|t31
             focus
              rcases zb (inR x.old 1 12) with t32|t32
              focus
               have hv:Hid (true=LB):=by show _=_;rw [aa.out];simp [t1,t2,t3,t4,t6,t9,t16,t19,t22,t26,t29,t30,t31,t32]
              rotate_left
              focus
               have hv:Hid (false=LB):=by show _=_;rw [aa.out];simp [t1,t2,t3,t4,t6,t9,t16,t19,t22,t26,t29,t30,t31,t32]
             rotate_left 2
             focus
              have hv:Hid (false=LB):=by show _=_;rw [aa.out];simp [t1,t2,t3,t4,t6,t9,t16,t19,t22,t26,t29,t30,t31]
            rotate_left 3
            focus
             have hv:Hid (false=LB):=by show _=_;rw [aa.out];simp [t1,t2,t3,t4,t6,t9,t16,t19,t22,t26,t29,t30]
           rotate_left 4
           focus
            have aq:(x.kind !=13)=true:=by rw [bne,t29];rfl
            rcases zb (x.kind==4) with t33|t33
            focus
             have ar:(x.kind !=4)=false:=by rw [bne,t33];rfl
             have hv:Hid (true=LB):=by show _=_;rw [aa.out];simp [t1,t2,t3,t4,t6,t9,t16,t19,t22,t26,t29,t33]
            rotate_left
            focus
             have ar:(x.kind !=4)=true:=by rw [bne,t33];rfl
             rcases zb (x.of.named) with t34|t34
             focus
              have hv:Hid (true=LB):=by show _=_;rw [aa.out];simp [t1,t2,t3,t4,t6,t9,t16,t19,t22,t26,t29,t33,t34]
             rotate_left
             focus
              have hv:Hid (false=LB):=by show _=_;rw [aa.out];simp [t1,t2,t3,t4,t6,t9,t16,t19,t22,t26,t29,t33,t34]
   rotate_left 32
   focus
    have hv:Hid (false=LB):=by show _=_;rw [aa.out];simp [t1,t2,t3]
  rotate_left 33
  focus
   have hv:Hid (false=LB):=by show _=_;rw [aa.out];simp [t1,t2]
 rotate_left 34
 focus
  have hv:Hid (false=LB):=by show _=_;rw [aa.out];simp [t1]
 all_goals
  clear aa;go_enter Tryz.func107,Tryz.ntmps107;go_wp2_with (first|(go_at_call 163;(with_reducible refine (Ge _ _ _ _).mono ?_);rintro _ v ⟨rfl,f⟩;have fz:=fz.trans f zr;have c0:=f.cell c0 zq;have c1:=f.cell c1 zq;have c2:=f.cell c2 zq;have c3:=f.cell c3 zq;have c5:=f.cell c5 zq;have c6:=f.cell c6 zq;have c7:=f.cell c7 zq;have c8:=f.cell c8 zq;have ae:=f.cell ae zq;have aj:=f.cell aj zq;have ac:=f.cell ac zq;have af:=f.cell af zq;have ag:=f.cell ag zq;have ah:=f.cell ah zq;have ai:=f.cell ai zq;have ad:=f.cell ad zq;have ao:=f.cell ao zq;have ak:=f.cell ak zq;have al:=f.cell al zq)|(go_at_call 164;(with_reducible refine (Ku _ _).mono ?_);rintro _ v ⟨rfl,f⟩;have fz:=fz.trans f zr;have c0:=f.cell c0 zq;have c1:=f.cell c1 zq;have c2:=f.cell c2 zq;have c3:=f.cell c3 zq;have c5:=f.cell c5 zq;have c6:=f.cell c6 zq;have c7:=f.cell c7 zq;have c8:=f.cell c8 zq;have ae:=f.cell ae zq;have aj:=f.cell aj zq;have ac:=f.cell ac zq;have af:=f.cell af zq;have ag:=f.cell ag zq;have ah:=f.cell ah zq;have ai:=f.cell ai zq;have ad:=f.cell ad zq;have ao:=f.cell ao zq;have ak:=f.cell ak zq;have al:=f.cell al zq)|(go_at_call 165;(with_reducible refine (Ip _ _).mono ?_);rintro _ v ⟨rfl,f⟩;have fz:=fz.trans f zr;have c0:=f.cell c0 zq;have c1:=f.cell c1 zq;have c2:=f.cell c2 zq;have c3:=f.cell c3 zq;have c5:=f.cell c5 zq;have c6:=f.cell c6 zq;have c7:=f.cell c7 zq;have c8:=f.cell c8 zq;have ae:=f.cell ae zq;have aj:=f.cell aj zq;have ac:=f.cell ac zq;have af:=f.cell af zq;have ag:=f.cell ag zq;have ah:=f.cell ah zq;have ai:=f.cell ai zq;have ad:=f.cell ad zq;have ao:=f.cell ao zq;have ak:=f.cell ak zq;have al:=f.cell al zq))
  go_ret
  exact ⟨congrArg (fun z=>Ending.returned (.bool z)) hv.out,fz⟩
end Oq
end
end Go.Proofs.YthpkjfliibdnjaaGreatDoor
