/-
  Contracts of the functions that the claim's statement reaches, walked one by one (part 10).
  Conditions: as each theorem says.
-/
import Derived.Test.YtihfebhfgliojaaGreatDoorRkO9
set_option maxRecDepth 100000
set_option maxHeartbeats 16000000
open List renaming getElem?_eq_getElem->As7,mem_of_getElem?->As8,take_of_length_le->As9,length_map->At0,getElem?_map->At1
open Go.Proofs.Tryz
open Go.Proofs.Tryz renaming prog->zp
open Go.Lib renaming hid->lh
open List renaming set->zl
open Go.Ending renaming returned->ze
namespace Go.Proofs.YtihfebhfgliojaaGreatDoor
section
open Go.RowKit Go.Maps
attribute [local go_sem ↓] Go.wp_at_zero Go.wp_at_succ
namespace Oq
attribute [local go_sem] Bool.not_false Bool.not_true
def OpL.ls (x:OpL):Int:=if x.kind=3 then 0 else 1
def OpL.nd (x:OpL):Int:=if x.kind=1 then 0 else 1
def OpL.mo (x:OpL):Int:=if x.kind=1 then 20 else (x.guards.length:Int)
def OpL.mb (x:OpL):Bool:=if x.kind=3 then ((inR x.mem 1 8&&x.dev==0)||(x.mem==0&&x.dev !=0)) else inR x.mem 1 8
def OpL.mayB (x:OpL) (j:Nat):Bool:=match j with
 |0=>inR x.dev x.ls 12
 |1=>inR x.old 1 12
 |2=>x.mb
 |3=>inR x.role 1 3
 |5=>x.epoch.named
 |6=>inR x.n 0 2147483647
 |9=>x.of.named
 |11=>inR x.need x.nd x.mo
 |12=>inR x.wait 0 2147483647
 |14=>Aw x.pub
 |_=>true
def OpL.itemsL (x:OpL):Bool:=x.guards.all (fun n=>inR n 1 12)&&(x.refs.all fOk&&(x.past.all Id.named&&(x.path.all (fun y=>Aw y.p&&y.xs.all Bx.may)&&(x.boxes.all Bx.may&&x.hist.all (fun y=>y.f.named)))))
def OpL.loopB (x:OpL) (has:Nat):Bool:=(List.range 16).all (fun j=> !has.testBit j||x.mayB j)
def OpL.rngB (x:OpL) (has:Nat):Bool:=inR x.by_ 1 12&&(inR x.sq 1 2147483647&&(inR x.at_ 0 2147483647&&(x.loopB has&&x.itemsL)))
def RA (x:OpL) (has:Nat) (left:Lit->Bool):Prop:=∀j,j<16->left (.int .i64 ((2^j:Nat):Int))=false->has.testBit j=true->x.mayB j=true
def mayIns:List (Nat × Int × Nat):=[(5,(1:Int),62),(9,(2:Int),65),(11,(4:Int),66),(15,(8:Int),69),(19,(64:Int),72),(23,(4096:Int),75),(29,(2048:Int),80),(33,(32:Int),83),(37,(512:Int),86),(41,(16384:Int),89)]
def Q6 (x:OpL) (t:Nat):Bool:=match t with
 |62=>x.mayB 0
 |65=>x.mayB 1
 |66=>x.mayB 2
 |69=>x.mayB 3
 |72=>x.mayB 6
 |75=>x.mayB 12
 |80=>x.mayB 11
 |83=>x.mayB 5
 |86=>x.mayB 9
 |89=>x.mayB 14
 |_=>false
def mayCv (x:OpL) (t:Nat):Bool:=match t with
 |4=>x.mayB 0
 |8=>x.mayB 1
 |14=>x.mayB 3
 |18=>x.mayB 6
 |22=>x.mayB 12
 |28=>x.mayB 11
 |32=>x.mayB 5
 |36=>x.mayB 9
 |40=>x.mayB 14
 |_=>false
theorem Zw (x:OpL):∀y∈mayIns,∃j,j<16/\y.2.1=((2^j:Nat):Int)/\Q6 x y.2.2=x.mayB j:=by
 unfold mayIns;refine List.forall_mem_cons.2 ⟨⟨0,by decide,rfl,rfl⟩,?_⟩;refine List.forall_mem_cons.2 ⟨⟨1,by decide,rfl,rfl⟩,?_⟩;refine List.forall_mem_cons.2 ⟨⟨2,by decide,rfl,rfl⟩,?_⟩;refine List.forall_mem_cons.2 ⟨⟨3,by decide,rfl,rfl⟩,?_⟩;refine List.forall_mem_cons.2 ⟨⟨6,by decide,rfl,rfl⟩,?_⟩;refine List.forall_mem_cons.2 ⟨⟨12,by decide,rfl,rfl⟩,?_⟩;refine List.forall_mem_cons.2 ⟨⟨11,by decide,rfl,rfl⟩,?_⟩;refine List.forall_mem_cons.2 ⟨⟨5,by decide,rfl,rfl⟩,?_⟩;refine List.forall_mem_cons.2 ⟨⟨9,by decide,rfl,rfl⟩,?_⟩;refine List.forall_mem_cons.2 ⟨⟨14,by decide,rfl,rfl⟩,?_⟩;exact fun y hy=>absurd hy (by simp)
theorem Zx:∀j,j<16->(mayIns.find? (fun y=>y.2.1==((2^j:Nat):Int))).isSome=false->j=4\/j=7\/j=8\/j=10\/j=13\/j=15:=by decide
theorem RA.start {x:OpL} {has:Nat} {left:Lit->Bool} (h:∀j,j<16->left (.int .i64 ((2^j:Nat):Int))=(mayIns.find? (fun y=>y.2.1==((2^j:Nat):Int))).isSome):RA x has left:=by
 intro j hj hl _;rw [h j hj] at hl
 rcases Zx j hj hl with rfl|rfl|rfl|rfl|rfl|rfl<;>rfl
theorem RA.step {x:OpL} {has j:Nat} {left:Lit->Bool} (h:RA x has left) (hj:j<16) (hb:has.testBit j=true->x.mayB j=true):RA x has (fun z=>left z&& !z.sameKey (.int .i64 ((2^j:Nat):Int))):=by
 intro i hi hl hbi
 by_cases hij:i=j
 ·
  subst hij;exact hb hbi
 ·
  replace hl:(left (.int .i64 ((2^i:Nat):Int))&& !(Lit.int .i64 ((2^i:Nat):Int)).sameKey (.int .i64 ((2^j:Nat):Int)))=false:=hl;rw [Qx hij] at hl;exact h i hi (by simpa using hl) hbi
theorem RA.done {x:OpL} {has:Nat} {left:Lit->Bool} (h:RA x has left) (hl:∀kl,left kl=false):x.loopB has=true:=by
 unfold OpL.loopB;rw [List.all_eq_true];intro j hj;have hj':j<16:=by simpa using hj
 cases hb:has.testBit j with
 |false=>rfl
 |true=>rw [h j hj' (hl _) hb];rfl
theorem Zy {x:OpL} {has j:Nat} (hj:j<16) (hb:has.testBit j=true) (hm:x.mayB j=false):x.loopB has=false:=by
 unfold OpL.loopB;rw [List.all_eq_false];exact ⟨j,by simpa using hj,by rw [hb,hm];decide⟩
theorem Zz (x:OpL) (has:Nat) (hhas:has<65536) (w:World) (hat:x.at w w.heap.size) (hok:x.op.ok):Calls zp 117 #[.agg x.cells,.int .i64 (has:Int)] w (Ae (x.rngB has) w):=by
 have bb:=Blk.new w 44 x.cells;have f0:Fr Non w (w.alloc (.cells x.cells 44)):=(Fr.refl Non w).alloc _;have c0:cI (w.alloc (.cells x.cells 44)) w.heap.size 0 x.by_:=bb.cell 0;have c1:cI (w.alloc (.cells x.cells 44)) w.heap.size 1 x.sq:=bb.cell 1;have c2:cI (w.alloc (.cells x.cells 44)) w.heap.size 2 x.kind:=bb.cell 2;have c3:cI (w.alloc (.cells x.cells 44)) w.heap.size 3 x.at_:=bb.cell 3;have c4:cS (w.alloc (.cells x.cells 44)) w.heap.size 4 x.pastA x.past.length x.pastC:=bb.cell 4;have c5:cI (w.alloc (.cells x.cells 44)) w.heap.size 5 x.dev:=bb.cell 5;have c6:cI (w.alloc (.cells x.cells 44)) w.heap.size 6 x.old:=bb.cell 6;have c7:cI (w.alloc (.cells x.cells 44)) w.heap.size 7 x.mem:=bb.cell 7;have c8:cI (w.alloc (.cells x.cells 44)) w.heap.size 8 x.role:=bb.cell 8;have c9:cS (w.alloc (.cells x.cells 44)) w.heap.size 9 x.pathA x.path.length x.pathC:=bb.cell 9;have cz:cI (w.alloc (.cells x.cells 44)) w.heap.size 10 x.epoch.b:=bb.cell 10;have dv:cI (w.alloc (.cells x.cells 44)) w.heap.size 11 x.epoch.s:=bb.cell 11;have d3:cU (w.alloc (.cells x.cells 44)) w.heap.size 12 x.epoch.u:=bb.cell 12;have df:cI (w.alloc (.cells x.cells 44)) w.heap.size 13 x.n:=bb.cell 13;have ba:cS (w.alloc (.cells x.cells 44)) w.heap.size 15 x.refsA x.refs.length x.refsC:=bb.cell 15;have dg:cI (w.alloc (.cells x.cells 44)) w.heap.size 16 x.of.b:=bb.cell 16;have dq:cI (w.alloc (.cells x.cells 44)) w.heap.size 17 x.of.s:=bb.cell 17;have ds:cU (w.alloc (.cells x.cells 44)) w.heap.size 18 x.of.u:=bb.cell 18;have ca:cS (w.alloc (.cells x.cells 44)) w.heap.size 19 x.guardsA x.guards.length x.guardsC:=bb.cell 19;have d4:cI (w.alloc (.cells x.cells 44)) w.heap.size 20 x.need:=bb.cell 20;have dx:cI (w.alloc (.cells x.cells 44)) w.heap.size 21 x.wait:=bb.cell 21;have ab:cS (w.alloc (.cells x.cells 44)) w.heap.size 22 x.boxesA x.boxes.length x.boxesC:=bb.cell 22;have dy:cU (w.alloc (.cells x.cells 44)) w.heap.size 23 x.pub:=bb.cell 23;have aa:cS (w.alloc (.cells x.cells 44)) w.heap.size 24 x.histA x.hist.length x.histC:=bb.cell 24;have cb:x.guards.length<=1000000:=by have h:=hok.guards.1;rw [show x.op.guards=x.guards from rfl] at h;omega
 have dt:x.refs.length<=1000000:=by have h:=hok.refs.1;rw [show x.op.refs=x.refs from rfl] at h;omega
 have ch:x.boxes.length<=1000000:=by have h:=hok.boxes.1;rw [show x.op.boxes=x.boxes from rfl] at h;omega
 have ce:∀y∈x.path,y.xs.length<=1000000:=fun y hy=>by have h:=(hok.path.2 y.nd (List.mem_map.2 ⟨y,hy,rfl⟩)).2.1;rw [show y.nd.xs=y.xs from rfl] at h;omega
 have dl:x.past.length<=1000000:=by have h:=hok.past.1;rw [show x.op.past=x.past from rfl] at h;omega
 have dm:x.path.length<=1000000:=by have h:=hok.path.1;rw [show x.op.path=x.path.map NdL.nd from rfl,At0] at h;omega
 have dd:x.hist.length<=1000000:=by have h:=hok.hist.1;rw [show x.op.hist=x.hist.map SlL.sl from rfl,At0] at h;omega
 have cv:=lh (fun w'=>Dk x.by_ 1 12 w');have dp:=lh (fun w'=>Dk x.sq 1 2147483647 w');have dr:=lh (fun w'=>Dk x.at_ 0 2147483647 w');have km:=lh (fun w'=>Dk x.mem 1 8 w');have cn:=lh (fun (w':World) (h:Fr Non w w')=>Y6 w.heap.size x.guards.length x.guardsC x.guardsA x.guards (fun n=>inR n 1 12) w' rfl (hat.guards.1.fr h zr) cb (fun y _ ad _=>Zr y ad));have ct:=lh (fun (w':World) (h:Fr Non w w')=>Y9 w.heap.size x.refs.length x.refsC x.refsA x.refs fOk w' rfl (hat.refs.1.fr h zr) dt (fun y _ ad _=>Js y ad));have co:=lh (fun (w':World) (h:Fr Non w w')=>Zc w.heap.size x.past.length x.pastC x.pastA x.past Id.named w' rfl (hat.past.1.fr h zr) dl (fun y _ ad _=>Jt y ad));have cq:=lh (fun (w':World) (h:Fr Non w w')=>Zh w.heap.size x.path.length x.pathC x.pathA x.path (fun y=>Aw y.p&&y.xs.all Bx.may) w' rfl (hat.path.1.fr h zr) dm (fun y hy ad h'=>Zv w.heap.size y ad ((hat.nodes y hy).fr (h.trans h' zr) zr) (ce y hy)));have cu:=lh (fun (w':World) (h:Fr Non w w')=>Q4 w.heap.size x.boxes.length x.boxesC x.boxesA x.boxes Bx.may w' rfl (hat.boxes.1.fr h zr) ch (fun y _ ad _=>Q5 y ad));have cp:=lh (fun (w':World) (h:Fr Non w w')=>Zn w.heap.size x.hist.length x.histC x.histA x.hist (fun y=>y.f.named) w' rfl (hat.hist.1.fr h zr) dd (fun y _ ad _=>Zs y ad));have ac:Hid (x.rngB has=(inR x.by_ 1 12&&(inR x.sq 1 2147483647&&(inR x.at_ 0 2147483647&&(x.loopB has&&(x.guards.all (fun n=>inR n 1 12)&&(x.refs.all fOk&&(x.past.all Id.named&&(x.path.all (fun y=>Aw y.p&&y.xs.all Bx.may)&&(x.boxes.all Bx.may&&x.hist.all (fun y=>y.f.named))))))))))):=rfl;generalize x.rngB has=LB at*;generalize inR x.by_ 1 12=b1 at*;generalize inR x.sq 1 2147483647=b2 at*;generalize inR x.at_ 0 2147483647=b3 at*;generalize (x.guards.all (fun n=>inR n 1 12))=g1 at*;generalize (x.refs.all fOk)=g2 at*;generalize (x.past.all Id.named)=g3 at*;generalize (x.path.all (fun y=>Aw y.p&&y.xs.all Bx.may))=g4 at*;generalize (x.boxes.all Bx.may)=g5 at*;generalize (x.hist.all (fun y=>y.f.named))=g6 at*;generalize x.cells=CS at*;clear bb hat hok dl dm dd cb dt ce ch
 cases b1
 ·
  have hv:Hid (false=LB):=by show _=_;rw [ac.out];rfl
  clear ac;go_enter func117,ntmps117;go_wp2_with (first
  |(go_at_call 150;(with_reducible refine (cv.out _).mono ?_);rintro _ v1 ⟨rfl,f1⟩;have dk:=f0.trans f1 zr;clear cv;have cr:=f1.cell c1 zq;have bu:=f1.cell c2 zq;have bg:=f1.cell c3 zq;have bp:=f1.cell c4 zq;have b6:=f1.cell c5 zq;have bh:=f1.cell c6 zq;have bx:=f1.cell c7 zq;have bl:=f1.cell c8 zq;have bz:=f1.cell c9 zq;have a5:=f1.cell cz zq;have az:=f1.cell dv zq;have a6:=f1.cell d3 zq;have ah:=f1.cell df zq;have ay:=f1.cell ba zq;have ai:=f1.cell dg zq;have af:=f1.cell dq zq;have av:=f1.cell ds zq;have aj:=f1.cell ca zq;have ak:=f1.cell d4 zq;have a1:=f1.cell dx zq;have ax:=f1.cell ab zq;have a2:=f1.cell dy zq;have a8:=f1.cell aa zq)
  |(go_at_call 150;(with_reducible refine (dp.out _).mono ?_);rintro _ v2 ⟨rfl,f2⟩;have dn:=dk.trans f2 zr;clear dp;have bc:=f2.cell bu zq;have cm:=f2.cell bg zq;have bw:=f2.cell bp zq;have bf:=f2.cell b6 zq;have be:=f2.cell bh zq;have br:=f2.cell bx zq;have bo:=f2.cell bl zq;have bs:=f2.cell bz zq;have au:=f2.cell a5 zq;have ar:=f2.cell az zq;have aw:=f2.cell a6 zq;have ag:=f2.cell ah zq;have aq:=f2.cell ay zq;have a9:=f2.cell ai zq;have a4:=f2.cell af zq;have ae:=f2.cell av zq;have ao:=f2.cell aj zq;have a0:=f2.cell ak zq;have al:=f2.cell a1 zq;have a7:=f2.cell ax zq;have a3:=f2.cell a2 zq;have ap:=f2.cell a8 zq)
  |(go_at_call 150;(with_reducible refine (dr.out _).mono ?_);rintro _ v3 ⟨rfl,f3⟩;have en:=dn.trans f3 zr;clear dr;have cf:=f3.cell bc zq;have ci:=f3.cell bw zq;have cl:=f3.cell bf zq;have cd:=f3.cell be zq;have cj:=f3.cell br zq;have cg:=f3.cell bo zq;have ck:=f3.cell bs zq;have bn:=f3.cell au zq;have bd:=f3.cell ar zq;have bi:=f3.cell aw zq;have bm:=f3.cell ag zq;have b8:=f3.cell aq zq;have bk:=f3.cell a9 zq;have b0:=f3.cell a4 zq;have b4:=f3.cell ae zq;have bv:=f3.cell ao zq;have b7:=f3.cell a0 zq;have bq:=f3.cell al zq;have bj:=f3.cell a7 zq;have b5:=f3.cell a3 zq;have bt:=f3.cell ap zq))
  go_ret
  exact ⟨congrArg (fun z=>ze (.bool z)) hv.out,dk⟩
 cases b2
 ·
  have hv:Hid (false=LB):=by show _=_;rw [ac.out];rfl
  clear ac;go_enter func117,ntmps117;go_wp2_with (first
  |(go_at_call 150;(with_reducible refine (cv.out _).mono ?_);rintro _ v1 ⟨rfl,f1⟩;have dk:=f0.trans f1 zr;clear cv;have cr:=f1.cell c1 zq;have bu:=f1.cell c2 zq;have bg:=f1.cell c3 zq;have bp:=f1.cell c4 zq;have b6:=f1.cell c5 zq;have bh:=f1.cell c6 zq;have bx:=f1.cell c7 zq;have bl:=f1.cell c8 zq;have bz:=f1.cell c9 zq;have a5:=f1.cell cz zq;have az:=f1.cell dv zq;have a6:=f1.cell d3 zq;have ah:=f1.cell df zq;have ay:=f1.cell ba zq;have ai:=f1.cell dg zq;have af:=f1.cell dq zq;have av:=f1.cell ds zq;have aj:=f1.cell ca zq;have ak:=f1.cell d4 zq;have a1:=f1.cell dx zq;have ax:=f1.cell ab zq;have a2:=f1.cell dy zq;have a8:=f1.cell aa zq)
  |(go_at_call 150;(with_reducible refine (dp.out _).mono ?_);rintro _ v2 ⟨rfl,f2⟩;have dn:=dk.trans f2 zr;clear dp;have bc:=f2.cell bu zq;have cm:=f2.cell bg zq;have bw:=f2.cell bp zq;have bf:=f2.cell b6 zq;have be:=f2.cell bh zq;have br:=f2.cell bx zq;have bo:=f2.cell bl zq;have bs:=f2.cell bz zq;have au:=f2.cell a5 zq;have ar:=f2.cell az zq;have aw:=f2.cell a6 zq;have ag:=f2.cell ah zq;have aq:=f2.cell ay zq;have a9:=f2.cell ai zq;have a4:=f2.cell af zq;have ae:=f2.cell av zq;have ao:=f2.cell aj zq;have a0:=f2.cell ak zq;have al:=f2.cell a1 zq;have a7:=f2.cell ax zq;have a3:=f2.cell a2 zq;have ap:=f2.cell a8 zq)
  |(go_at_call 150;(with_reducible refine (dr.out _).mono ?_);rintro _ v3 ⟨rfl,f3⟩;have en:=dn.trans f3 zr;clear dr;have cf:=f3.cell bc zq;have ci:=f3.cell bw zq;have cl:=f3.cell bf zq;have cd:=f3.cell be zq;have cj:=f3.cell br zq;have cg:=f3.cell bo zq;have ck:=f3.cell bs zq;have bn:=f3.cell au zq;have bd:=f3.cell ar zq;have bi:=f3.cell aw zq;have bm:=f3.cell ag zq;have b8:=f3.cell aq zq;have bk:=f3.cell a9 zq;have b0:=f3.cell a4 zq;have b4:=f3.cell ae zq;have bv:=f3.cell ao zq;have b7:=f3.cell a0 zq;have bq:=f3.cell al zq;have bj:=f3.cell a7 zq;have b5:=f3.cell a3 zq;have bt:=f3.cell ap zq))
  go_ret
  exact ⟨congrArg (fun z=>ze (.bool z)) hv.out,dn⟩
 cases b3
 ·
  have hv:Hid (false=LB):=by show _=_;rw [ac.out];rfl
  clear ac;go_enter func117,ntmps117;go_wp2_with (first
  |(go_at_call 150;(with_reducible refine (cv.out _).mono ?_);rintro _ v1 ⟨rfl,f1⟩;have dk:=f0.trans f1 zr;clear cv;have cr:=f1.cell c1 zq;have bu:=f1.cell c2 zq;have bg:=f1.cell c3 zq;have bp:=f1.cell c4 zq;have b6:=f1.cell c5 zq;have bh:=f1.cell c6 zq;have bx:=f1.cell c7 zq;have bl:=f1.cell c8 zq;have bz:=f1.cell c9 zq;have a5:=f1.cell cz zq;have az:=f1.cell dv zq;have a6:=f1.cell d3 zq;have ah:=f1.cell df zq;have ay:=f1.cell ba zq;have ai:=f1.cell dg zq;have af:=f1.cell dq zq;have av:=f1.cell ds zq;have aj:=f1.cell ca zq;have ak:=f1.cell d4 zq;have a1:=f1.cell dx zq;have ax:=f1.cell ab zq;have a2:=f1.cell dy zq;have a8:=f1.cell aa zq)
  |(go_at_call 150;(with_reducible refine (dp.out _).mono ?_);rintro _ v2 ⟨rfl,f2⟩;have dn:=dk.trans f2 zr;clear dp;have bc:=f2.cell bu zq;have cm:=f2.cell bg zq;have bw:=f2.cell bp zq;have bf:=f2.cell b6 zq;have be:=f2.cell bh zq;have br:=f2.cell bx zq;have bo:=f2.cell bl zq;have bs:=f2.cell bz zq;have au:=f2.cell a5 zq;have ar:=f2.cell az zq;have aw:=f2.cell a6 zq;have ag:=f2.cell ah zq;have aq:=f2.cell ay zq;have a9:=f2.cell ai zq;have a4:=f2.cell af zq;have ae:=f2.cell av zq;have ao:=f2.cell aj zq;have a0:=f2.cell ak zq;have al:=f2.cell a1 zq;have a7:=f2.cell ax zq;have a3:=f2.cell a2 zq;have ap:=f2.cell a8 zq)
  |(go_at_call 150;(with_reducible refine (dr.out _).mono ?_);rintro _ v3 ⟨rfl,f3⟩;have en:=dn.trans f3 zr;clear dr;have cf:=f3.cell bc zq;have ci:=f3.cell bw zq;have cl:=f3.cell bf zq;have cd:=f3.cell be zq;have cj:=f3.cell br zq;have cg:=f3.cell bo zq;have ck:=f3.cell bs zq;have bn:=f3.cell au zq;have bd:=f3.cell ar zq;have bi:=f3.cell aw zq;have bm:=f3.cell ag zq;have b8:=f3.cell aq zq;have bk:=f3.cell a9 zq;have b0:=f3.cell a4 zq;have b4:=f3.cell ae zq;have bv:=f3.cell ao zq;have b7:=f3.cell a0 zq;have bq:=f3.cell al zq;have bj:=f3.cell a7 zq;have b5:=f3.cell a3 zq;have bt:=f3.cell ap zq))
  go_ret
  exact ⟨congrArg (fun z=>ze (.bool z)) hv.out,en⟩
 replace ac:Hid (LB=(x.loopB has&&(g1&&(g2&&(g3&&(g4&&(g5&&g6))))))):=ac;go_enter func117,ntmps117
 go_wp2_with (first
  |(go_at_call 150;(with_reducible refine (cv.out _).mono ?_);rintro _ v1 ⟨rfl,f1⟩;have dk:=f0.trans f1 zr;clear cv;have cr:=f1.cell c1 zq;have bu:=f1.cell c2 zq;have bg:=f1.cell c3 zq;have bp:=f1.cell c4 zq;have b6:=f1.cell c5 zq;have bh:=f1.cell c6 zq;have bx:=f1.cell c7 zq;have bl:=f1.cell c8 zq;have bz:=f1.cell c9 zq;have a5:=f1.cell cz zq;have az:=f1.cell dv zq;have a6:=f1.cell d3 zq;have ah:=f1.cell df zq;have ay:=f1.cell ba zq;have ai:=f1.cell dg zq;have af:=f1.cell dq zq;have av:=f1.cell ds zq;have aj:=f1.cell ca zq;have ak:=f1.cell d4 zq;have a1:=f1.cell dx zq;have ax:=f1.cell ab zq;have a2:=f1.cell dy zq;have a8:=f1.cell aa zq)
  |(go_at_call 150;(with_reducible refine (dp.out _).mono ?_);rintro _ v2 ⟨rfl,f2⟩;have dn:=dk.trans f2 zr;clear dp;have bc:=f2.cell bu zq;have cm:=f2.cell bg zq;have bw:=f2.cell bp zq;have bf:=f2.cell b6 zq;have be:=f2.cell bh zq;have br:=f2.cell bx zq;have bo:=f2.cell bl zq;have bs:=f2.cell bz zq;have au:=f2.cell a5 zq;have ar:=f2.cell az zq;have aw:=f2.cell a6 zq;have ag:=f2.cell ah zq;have aq:=f2.cell ay zq;have a9:=f2.cell ai zq;have a4:=f2.cell af zq;have ae:=f2.cell av zq;have ao:=f2.cell aj zq;have a0:=f2.cell ak zq;have al:=f2.cell a1 zq;have a7:=f2.cell ax zq;have a3:=f2.cell a2 zq;have ap:=f2.cell a8 zq)
  |(go_at_call 150;(with_reducible refine (dr.out _).mono ?_);rintro _ v3 ⟨rfl,f3⟩;have en:=dn.trans f3 zr;clear dr;have cf:=f3.cell bc zq;have ci:=f3.cell bw zq;have cl:=f3.cell bf zq;have cd:=f3.cell be zq;have cj:=f3.cell br zq;have cg:=f3.cell bo zq;have ck:=f3.cell bs zq;have bn:=f3.cell au zq;have bd:=f3.cell ar zq;have bi:=f3.cell aw zq;have bm:=f3.cell ag zq;have b8:=f3.cell aq zq;have bk:=f3.cell a9 zq;have b0:=f3.cell a4 zq;have b4:=f3.cell ae zq;have bv:=f3.cell ao zq;have b7:=f3.cell a0 zq;have bq:=f3.cell al zq;have bj:=f3.cell a7 zq;have b5:=f3.cell a3 zq;have bt:=f3.cell ap zq))
 go_quiet (fail)
 have fl:Fr Non w (v3.drewN nq):=en.drewN nq;have eo:cI (v3.drewN nq) w.heap.size 2 x.kind:=cf;have es:cS (v3.drewN nq) w.heap.size 4 x.pastA x.past.length x.pastC:=ci;have el:cI (v3.drewN nq) w.heap.size 5 x.dev:=cl;have ee:cI (v3.drewN nq) w.heap.size 6 x.old:=cd;have ed:cI (v3.drewN nq) w.heap.size 7 x.mem:=cj;have eh:cI (v3.drewN nq) w.heap.size 8 x.role:=cg;have em:cS (v3.drewN nq) w.heap.size 9 x.pathA x.path.length x.pathC:=ck;have db:cI (v3.drewN nq) w.heap.size 10 x.epoch.b:=bn;have cy:cI (v3.drewN nq) w.heap.size 11 x.epoch.s:=bd;have cx:cU (v3.drewN nq) w.heap.size 12 x.epoch.u:=bi;have dw:cI (v3.drewN nq) w.heap.size 13 x.n:=bm;have dh:cS (v3.drewN nq) w.heap.size 15 x.refsA x.refs.length x.refsC:=b8;have d2:cI (v3.drewN nq) w.heap.size 16 x.of.b:=bk;have d1:cI (v3.drewN nq) w.heap.size 17 x.of.s:=b0;have di:cU (v3.drewN nq) w.heap.size 18 x.of.u:=b4;have cw:cS (v3.drewN nq) w.heap.size 19 x.guardsA x.guards.length x.guardsC:=bv;have da:cI (v3.drewN nq) w.heap.size 20 x.need:=b7;have du:cI (v3.drewN nq) w.heap.size 21 x.wait:=bq;have dz:cS (v3.drewN nq) w.heap.size 22 x.boxesA x.boxes.length x.boxesC:=bj;have de:cU (v3.drewN nq) w.heap.size 23 x.pub:=b5;have dj:cS (v3.drewN nq) w.heap.size 24 x.histA x.hist.length x.histC:=bt;generalize v3.drewN nq=v4 at*;clear cf ci cl cd cj cg ck bn bd bi bm b8 bk b0 b4 bv b7 bq bj b5 bt bc cm bw bf be br bo bs au ar aw ag aq a9 a4 ae ao a0 al a7 a3 ap cr bu bg bp b6 bh bx bl bz a5 az a6 ah ay ai af av aj ak a1 ax a2 a8 c0 c1 c2 c3 c4 c5 c6 c7 c8 c9 cz dv d3 df ba dg dq ds ca d4 dx ab dy aa
 go_upto_if 38 with (go_at_call 150;(with_reducible refine (km.out _).mono ?_);rintro _ v5 ⟨rfl,f5⟩;have ek:=fl.trans f5 zr;clear km;have c2:=f5.cell eo zq;have c4:=f5.cell es zq;have c5:=f5.cell el zq;have c6:=f5.cell ee zq;have c7:=f5.cell ed zq;have c8:=f5.cell eh zq;have c9:=f5.cell em zq;have cz:=f5.cell db zq;have dv:=f5.cell cy zq;have d3:=f5.cell cx zq;have df:=f5.cell dw zq;have ba:=f5.cell dh zq;have dg:=f5.cell d2 zq;have dq:=f5.cell d1 zq;have ds:=f5.cell di zq;have ca:=f5.cell cw zq;have d4:=f5.cell da zq;have dx:=f5.cell du zq;have ab:=f5.cell dz zq;have dy:=f5.cell de zq;have aa:=f5.cell dj zq)
 clear eo es el ee ed eh em db cy cx dw dh d2 d1 di cw da du dz de dj fl f5;generalize hv5:v5=W at*
 go_cut [5,8] from 14 (fun a b wc=>W=wc/\a=.int .i64 x.ls/\b=.bool x.mb)
 case first=>
  by_cases k3:x.kind=3
  ·
   have h1:Hid (x.ls=0):=if_pos k3;have fn:Hid (x.mb=((inR x.mem 1 8&&x.dev==0)||(x.mem==0&&x.dev !=0))):=if_pos k3;have ey:=C9 k3;clear k3;generalize inR x.mem 1 8=m1 at*
   rcases zb (x.dev==0) with d0|d0<;>rcases zb (x.mem==0) with e0|e0<;>cases m1
   all_goals
    have fd:(x.dev !=0)=!(x.dev==0):=rfl;rw [d0] at fd;have h2:=fn.out;rw [d0,e0,fd] at h2;replace h2:=lh h2;clear fn;go_wp2_with fail;go_meet;exact ⟨rfl,congrArg (Value.int .i64) h1.out.symm,congrArg Value.bool h2.out.symm⟩
  ·
   have h1:Hid (x.ls=1):=if_neg k3;have h2:Hid (x.mb=inR x.mem 1 8):=if_neg k3;have ey:=C5 k3;clear k3;go_wp2_with fail;go_meet;exact ⟨rfl,congrArg (Value.int .i64) h1.out.symm,congrArg Value.bool h2.out.symm⟩
 case rest=>
 obtain ⟨rfl,rfl,rfl⟩:=hcut
 go_upto_if 57 with (fail)
 go_cut [6,7] from 14 (fun a b wc=>W=wc/\a=.int .i64 x.nd/\b=.int .i64 x.mo)
 case first=>
  by_cases k3:x.kind=1
  ·
   have h1:Hid (x.nd=0):=if_pos k3;have h2:Hid (x.mo=20):=if_pos k3;have ey:=C9 k3;clear k3;go_wp2_with fail;go_meet;exact ⟨rfl,congrArg (Value.int .i64) h1.out.symm,congrArg (Value.int .i64) h2.out.symm⟩
  ·
   have h1:Hid (x.nd=1):=if_neg k3;have h2:Hid (x.mo=(x.guards.length:Int)):=if_neg k3;have ey:=C5 k3;clear k3;go_wp2_with fail;go_meet;exact ⟨rfl,congrArg (Value.int .i64) h1.out.symm,congrArg (Value.int .i64) h2.out.symm⟩
 case rest=>
 obtain ⟨rfl,rfl,rfl⟩:=hcut;go_upto_region 10 with (fail)
 have hS:(fun w'=>cI w' w.heap.size 5 x.dev/\cI w' w.heap.size 6 x.old/\cI w' w.heap.size 8 x.role/\cI w' w.heap.size 10 x.epoch.b/\cI w' w.heap.size 11 x.epoch.s/\cU w' w.heap.size 12 x.epoch.u/\cI w' w.heap.size 13 x.n/\cI w' w.heap.size 16 x.of.b/\cI w' w.heap.size 17 x.of.s/\cU w' w.heap.size 18 x.of.u/\cI w' w.heap.size 20 x.need/\cI w' w.heap.size 21 x.wait/\cU w' w.heap.size 23 x.pub) W.drew:=by
  and_intros
  · exact c5
  · exact c6
  · exact c8
  · exact cz
  · exact dv
  · exact d3
  · exact df
  · exact dg
  · exact dq
  · exact ds
  · exact d4
  · exact dx
  · exact dy
 refine wp_region_held_drew (S:=fun w'=>cI w' w.heap.size 5 x.dev/\cI w' w.heap.size 6 x.old/\cI w' w.heap.size 8 x.role/\cI w' w.heap.size 10 x.epoch.b/\cI w' w.heap.size 11 x.epoch.s/\cU w' w.heap.size 12 x.epoch.u/\cI w' w.heap.size 13 x.n/\cI w' w.heap.size 16 x.of.b/\cI w' w.heap.size 17 x.of.s/\cU w' w.heap.size 18 x.of.u/\cI w' w.heap.size 20 x.need/\cI w' w.heap.size 21 x.wait/\cU w' w.heap.size 23 x.pub) (by kernel_rfl) hS (fun _=> ?_);try simp only [List.append_eq,List.cons_append,List.nil_append]
 replace c4:cS W.drew w.heap.size 4 x.pastA x.past.length x.pastC:=c4;replace c9:cS W.drew w.heap.size 9 x.pathA x.path.length x.pathC:=c9;replace ba:cS W.drew w.heap.size 15 x.refsA x.refs.length x.refsC:=ba;replace ca:cS W.drew w.heap.size 19 x.guardsA x.guards.length x.guardsC:=ca;replace ab:cS W.drew w.heap.size 22 x.boxesA x.boxes.length x.boxesC:=ab;replace aa:cS W.drew w.heap.size 24 x.histA x.hist.length x.histC:=aa;replace ek:=ek.drew;clear c2 c7 c5 c6 c8 cz dv d3 df dg dq ds d4 dx dy;generalize W.drew=w0 at*;refine tkH 1 hS (h:=tkH 2 hS (h:=tkH 3 hS (h:=tkH 6 hS (h:=tkH 7 hS (h:=tkH 10 hS (h:=tkH 12 hS (h:=tkH 13 hS (h:=tkH 16 hS (h:=tkH 17 hS (h:=tkH 20 hS (h:=tkH 21 hS (h:=?_))))))))))));simp only [zl];refine tkH 24 hS (h:=tkH 25 hS (h:=tkH 26 hS (h:=tkH 27 hS (h:=tkH 30 hS (h:=tkH 31 hS (h:=tkH 34 hS (h:=tkH 35 hS (h:=tkH 38 hS (h:=tkH 39 hS (h:=?_))))))))));simp only [zl];refine Qr (H:=Nat) 0 58 190 3 4 [4,8,14,18,22,28,32,36,40] mayIns (Q6 x) (mayCv x) _ _ ((Array.replicate 44 true).setIfInBounds 42 false|>.setIfInBounds 43 false) w0 2 (by decide) (by kernel_rfl) (by kernel_rfl) (by kernel_rfl) underlying190 underlying3 underlying4 ?_ ?_ ?_ (by decide) ?_
 ·
  clear ac cn ct co cq cu cp;refine List.forall_mem_cons.2 ⟨⟨62,_,_,_,_,#[.tmp 60,.tmp 61,.const (.int .i64 12)],rfl,by kernel_rfl,by kernel_rfl,fun a w' K ha hf hk=>E2 rfl func150 (by kernel_rfl) rfl (vals:=#[.int .i64 x.dev,.int .i64 x.ls,.int .i64 12]) (ha.trans (by kernel_rfl)) ((Dk x.dev x.ls 12 w').mono ?_)⟩,?_⟩
  ·
   rintro _ ad ⟨rfl,f⟩;exact ⟨_,rfl,hk ad f⟩
  refine List.forall_mem_cons.2 ⟨⟨65,_,_,_,_,#[.tmp 64,.const (.int .i64 1),.const (.int .i64 12)],rfl,by kernel_rfl,by kernel_rfl,fun a w' K ha hf hk=>E2 rfl func150 (by kernel_rfl) rfl (vals:=#[.int .i64 x.old,.int .i64 1,.int .i64 12]) (ha.trans (by kernel_rfl)) ((Dk x.old 1 12 w').mono ?_)⟩,?_⟩
  ·
   rintro _ ad ⟨rfl,f⟩;exact ⟨_,rfl,hk ad f⟩
  refine List.forall_mem_cons.2 ⟨⟨69,_,_,_,_,#[.tmp 68,.const (.int .i64 1),.const (.int .i64 3)],rfl,by kernel_rfl,by kernel_rfl,fun a w' K ha hf hk=>E2 rfl func150 (by kernel_rfl) rfl (vals:=#[.int .i64 x.role,.int .i64 1,.int .i64 3]) (ha.trans (by kernel_rfl)) ((Dk x.role 1 3 w').mono ?_)⟩,?_⟩
  ·
   rintro _ ad ⟨rfl,f⟩;exact ⟨_,rfl,hk ad f⟩
  refine List.forall_mem_cons.2 ⟨⟨72,_,_,_,_,#[.tmp 71,.const (.int .i64 0),.const (.int .i64 2147483647)],rfl,by kernel_rfl,by kernel_rfl,fun a w' K ha hf hk=>E2 rfl func150 (by kernel_rfl) rfl (vals:=#[.int .i64 x.n,.int .i64 0,.int .i64 2147483647]) (ha.trans (by kernel_rfl)) ((Dk x.n 0 2147483647 w').mono ?_)⟩,?_⟩
  ·
   rintro _ ad ⟨rfl,f⟩;exact ⟨_,rfl,hk ad f⟩
  refine List.forall_mem_cons.2 ⟨⟨75,_,_,_,_,#[.tmp 74,.const (.int .i64 0),.const (.int .i64 2147483647)],rfl,by kernel_rfl,by kernel_rfl,fun a w' K ha hf hk=>E2 rfl func150 (by kernel_rfl) rfl (vals:=#[.int .i64 x.wait,.int .i64 0,.int .i64 2147483647]) (ha.trans (by kernel_rfl)) ((Dk x.wait 0 2147483647 w').mono ?_)⟩,?_⟩
  ·
   rintro _ ad ⟨rfl,f⟩;exact ⟨_,rfl,hk ad f⟩
  refine List.forall_mem_cons.2 ⟨⟨80,_,_,_,_,#[.tmp 77,.tmp 78,.tmp 79],rfl,by kernel_rfl,by kernel_rfl,fun a w' K ha hf hk=>E2 rfl func150 (by kernel_rfl) rfl (vals:=#[.int .i64 x.need,.int .i64 x.nd,.int .i64 x.mo]) (ha.trans (by kernel_rfl)) ((Dk x.need x.nd x.mo w').mono ?_)⟩,?_⟩
  ·
   rintro _ ad ⟨rfl,f⟩;exact ⟨_,rfl,hk ad f⟩
  refine List.forall_mem_cons.2 ⟨⟨83,_,_,_,_,#[.tmp 82],rfl,by kernel_rfl,by kernel_rfl,fun a w' K ha hf hk=>E2 rfl func151 (by kernel_rfl) rfl (vals:=#[.agg x.epoch.V]) (ha.trans (by kernel_rfl)) ((Jt x.epoch w').mono ?_)⟩,?_⟩
  ·
   rintro _ ad ⟨rfl,f⟩;exact ⟨_,rfl,hk ad f⟩
  refine List.forall_mem_cons.2 ⟨⟨86,_,_,_,_,#[.tmp 85],rfl,by kernel_rfl,by kernel_rfl,fun a w' K ha hf hk=>E2 rfl func151 (by kernel_rfl) rfl (vals:=#[.agg x.of.V]) (ha.trans (by kernel_rfl)) ((Jt x.of w').mono ?_)⟩,?_⟩
  ·
   rintro _ ad ⟨rfl,f⟩;exact ⟨_,rfl,hk ad f⟩
  refine List.forall_mem_cons.2 ⟨⟨89,_,_,_,_,#[.tmp 88],rfl,by kernel_rfl,by kernel_rfl,fun a w' K ha hf hk=>E2 rfl func152 (by kernel_rfl) rfl (vals:=#[.int .u64 (x.pub:Int)]) (ha.trans (by kernel_rfl)) ((Jq x.pub w').mono ?_)⟩,?_⟩
  ·
   rintro _ ad ⟨rfl,f⟩;exact ⟨_,rfl,hk ad f⟩
  exact fun y hy=>absurd hy (by simp)
 ·
  clear ac cn ct co cq cu cp;unfold mayIns;refine List.forall_mem_cons.2 ⟨Or.inr ⟨4,by kernel_rfl,rfl⟩,?_⟩;refine List.forall_mem_cons.2 ⟨Or.inr ⟨8,by kernel_rfl,rfl⟩,?_⟩;refine List.forall_mem_cons.2 ⟨Or.inl ⟨by kernel_rfl,rfl⟩,?_⟩;refine List.forall_mem_cons.2 ⟨Or.inr ⟨14,by kernel_rfl,rfl⟩,?_⟩;refine List.forall_mem_cons.2 ⟨Or.inr ⟨18,by kernel_rfl,rfl⟩,?_⟩;refine List.forall_mem_cons.2 ⟨Or.inr ⟨22,by kernel_rfl,rfl⟩,?_⟩;refine List.forall_mem_cons.2 ⟨Or.inr ⟨28,by kernel_rfl,rfl⟩,?_⟩;refine List.forall_mem_cons.2 ⟨Or.inr ⟨32,by kernel_rfl,rfl⟩,?_⟩;refine List.forall_mem_cons.2 ⟨Or.inr ⟨36,by kernel_rfl,rfl⟩,?_⟩;refine List.forall_mem_cons.2 ⟨Or.inr ⟨40,by kernel_rfl,rfl⟩,?_⟩;exact fun y hy=>absurd hy (by simp)
 ·
  intro w' hf;obtain ⟨q5,q6,q8,eb,ef,ej,ep,eg,d8,er,d9,ec,ei⟩:=hS
  and_intros<;>first|exact hf.cell q5 zq|exact hf.cell q6 zq|exact hf.cell q8 zq|exact hf.cell eb zq|exact hf.cell ef zq|exact hf.cell ej zq|exact hf.cell ep zq|exact hf.cell eg zq|exact hf.cell d8 zq|exact hf.cell er zq|exact hf.cell d9 zq|exact hf.cell ec zq|exact hf.cell ei zq
 intro b w1 D n hF hb ev hn cc;rw [Qs ([none,none,none,none,none,none,none,none,none,none,none,none,none,none,none,none,none,none,none,none,none,none,none,none,none,none,none,none,none,none,none,none,none,none,none,none,none,none,none,none,none,none,none,none,none,none,none,none,none,none,none,none,none,none,none,none,none,none,some 0,none,none,none,some 4,none,none,some 8,none,none,none,some 14,none,none,some 18,none,none,some 22,none,none,none,none,some 28,none,none,some 32,none,none,some 36,none,none,some 40,none,none,none,none,none,none,none,none,none,none,none,none,none,none,none,none,none,none,none,none,none,none,none,none,none,none,none,none,none,none,none,none,none,none,none,none,none,none,none,none,none,none,none,none,none,none]) (by kernel_rfl) (by decide)];dsimp only [List.zipWith_cons_cons,List.zipWith_nil_left];simp only [if_true]
 have fa:(fun w'=>cI w' w.heap.size 5 x.dev/\cI w' w.heap.size 6 x.old/\cI w' w.heap.size 8 x.role/\cI w' w.heap.size 10 x.epoch.b/\cI w' w.heap.size 11 x.epoch.s/\cU w' w.heap.size 12 x.epoch.u/\cI w' w.heap.size 13 x.n/\cI w' w.heap.size 16 x.of.b/\cI w' w.heap.size 17 x.of.s/\cU w' w.heap.size 18 x.of.u/\cI w' w.heap.size 20 x.need/\cI w' w.heap.size 21 x.wait/\cU w' w.heap.size 23 x.pub) w1:=by
  obtain ⟨q5,q6,q8,eb,ef,ej,ep,eg,d8,er,d9,ec,ei⟩:=hS
  and_intros<;>first|exact hF.cell q5 zq|exact hF.cell q6 zq|exact hF.cell q8 zq|exact hF.cell eb zq|exact hF.cell ef zq|exact hF.cell ej zq|exact hF.cell ep zq|exact hF.cell eg zq|exact hF.cell d8 zq|exact hF.cell er zq|exact hF.cell d9 zq|exact hF.cell ec zq|exact hF.cell ei zq
 refine tkH 42 fa (h:=?_);simp only [zl];refine N7 43 (by kernel_rfl) rfl (fun K hK=> ?_);refine Qt rfl rfl ev (int_keyed underlying3) underlying190 ?_;intro w2 d7 fq fw;have b9:=Fr.ofGrown fq (fun k hk=>by cases hk);have dc:=hF.trans b9 zr;have fk:=ek.trans dc zr;refine hK.out _ _ ?_ (fun _=> ?_)
 ·
  obtain ⟨q5,q6,q8,eb,ef,ej,ep,eg,d8,er,d9,ec,ei⟩:=fa
  and_intros<;>first|exact b9.cell q5 zq|exact b9.cell q6 zq|exact b9.cell q8 zq|exact b9.cell eb zq|exact b9.cell ef zq|exact b9.cell ej zq|exact b9.cell ep zq|exact b9.cell eg zq|exact b9.cell d8 zq|exact b9.cell er zq|exact b9.cell d9 zq|exact b9.cell ec zq|exact b9.cell ei zq
 clear hK K;rw [Ad];simp only [zl];refine oD ?_;have fs:w.heap.size<w1.heap.size:=Nat.lt_of_lt_of_le (World.block_lt_of_cell? _ _ ca) hF.size;replace c4:=dc.cell c4 zq;replace c9:=dc.cell c9 zq;replace ba:=dc.cell ba zq;replace ca:=dc.cell ca zq;replace ab:=dc.cell ab zq;replace aa:=dc.cell aa zq;have e9:=(ek.trans hF zr).size;clear fa hS dc b9 hF ek;go_simp;go_wp2_with fail
 go_loopw [] (fun wr=>∃(cs:Lit->Bool) (ez:Nat),wr.ranges zp 3 (plainElem zp 4) b w1.heap.size n D cs ez/\Hid (RA x has cs)/\Fr Non w wr/\Fr (fun k=>w1.heap.size<=k) w2 wr) (fun wr=>wr.rangeLeft b w1.heap.size)
 case atStart=>exact ⟨_,_,d7,RA.start (fun j hj=>by rw [(cc.2 _).1,Option.isSome_map]),fk,Fr.refl _ _⟩
 case round=>
  obtain ⟨cs,ez,d7,e8,hF,d6⟩:=hrel;clear fk
  go_wp2_with (first
   |(at_next;refine Qu _ rfl _ rfl 3 4 underlying3 underlying4 b w1.heap.size n D cs ez rfl d7 ?_ ?_)
   |go_in)
  ·
   intro fv fc;have hd:=RA.done e8 fc;replace ac:Hid (LB=(g1&&(g2&&(g3&&(g4&&(g5&&g6)))))):=by show _=_;rw [ac.out,hd];rfl
   subst fv;clear d7 hd fc e8 cc;replace c4:=d6.cell c4 (by show ¬w1.heap.size<=w.heap.size;omega);replace c9:=d6.cell c9 (by show ¬w1.heap.size<=w.heap.size;omega);replace ba:=d6.cell ba (by show ¬w1.heap.size<=w.heap.size;omega);replace ca:=d6.cell ca (by show ¬w1.heap.size<=w.heap.size;omega);replace ab:=d6.cell ab (by show ¬w1.heap.size<=w.heap.size;omega);replace aa:=d6.cell aa (by show ¬w1.heap.size<=w.heap.size;omega)
   cases g1
   ·
    have hv:Hid (false=LB):=ac.out.symm;clear ac;go_wp2_with (first|(go_at_call 158;(with_reducible refine (cn.out _ hF).mono ?_);rintro _ v0 ⟨rfl,e0⟩;have hF:=hF.trans e0 zr;have ba:=e0.cell ba zq;have c4:=e0.cell c4 zq;have c9:=e0.cell c9 zq;have ab:=e0.cell ab zq;have aa:=e0.cell aa zq)|(go_at_call 159;(with_reducible refine (ct.out _ hF).mono ?_);rintro _ v1 ⟨rfl,e1⟩;have hF:=hF.trans e1 zr;have c4:=e1.cell c4 zq;have c9:=e1.cell c9 zq;have ab:=e1.cell ab zq;have aa:=e1.cell aa zq)|(go_at_call 161;(with_reducible refine (co.out _ hF).mono ?_);rintro _ v2 ⟨rfl,e2⟩;have hF:=hF.trans e2 zr;have c9:=e2.cell c9 zq;have ab:=e2.cell ab zq;have aa:=e2.cell aa zq)|(go_at_call 162;(with_reducible refine (cq.out _ hF).mono ?_);rintro _ v3 ⟨rfl,e3⟩;have hF:=hF.trans e3 zr;have ab:=e3.cell ab zq;have aa:=e3.cell aa zq)|(go_at_call 154;(with_reducible refine (cu.out _ hF).mono ?_);rintro _ v4 ⟨rfl,e4⟩;have hF:=hF.trans e4 zr;have aa:=e4.cell aa zq)|(go_at_call 163;(with_reducible refine (cp.out _ hF).mono ?_);rintro _ v5 ⟨rfl,e5⟩;have hF:=hF.trans e5 zr))
    go_ret
    exact ⟨congrArg (fun z=>ze (.bool z)) hv.out,hF⟩
   cases g2
   ·
    have hv:Hid (false=LB):=ac.out.symm;clear ac;go_wp2_with (first|(go_at_call 158;(with_reducible refine (cn.out _ hF).mono ?_);rintro _ v0 ⟨rfl,e0⟩;have hF:=hF.trans e0 zr;have ba:=e0.cell ba zq;have c4:=e0.cell c4 zq;have c9:=e0.cell c9 zq;have ab:=e0.cell ab zq;have aa:=e0.cell aa zq)|(go_at_call 159;(with_reducible refine (ct.out _ hF).mono ?_);rintro _ v1 ⟨rfl,e1⟩;have hF:=hF.trans e1 zr;have c4:=e1.cell c4 zq;have c9:=e1.cell c9 zq;have ab:=e1.cell ab zq;have aa:=e1.cell aa zq)|(go_at_call 161;(with_reducible refine (co.out _ hF).mono ?_);rintro _ v2 ⟨rfl,e2⟩;have hF:=hF.trans e2 zr;have c9:=e2.cell c9 zq;have ab:=e2.cell ab zq;have aa:=e2.cell aa zq)|(go_at_call 162;(with_reducible refine (cq.out _ hF).mono ?_);rintro _ v3 ⟨rfl,e3⟩;have hF:=hF.trans e3 zr;have ab:=e3.cell ab zq;have aa:=e3.cell aa zq)|(go_at_call 154;(with_reducible refine (cu.out _ hF).mono ?_);rintro _ v4 ⟨rfl,e4⟩;have hF:=hF.trans e4 zr;have aa:=e4.cell aa zq)|(go_at_call 163;(with_reducible refine (cp.out _ hF).mono ?_);rintro _ v5 ⟨rfl,e5⟩;have hF:=hF.trans e5 zr))
    go_ret
    exact ⟨congrArg (fun z=>ze (.bool z)) hv.out,hF⟩
   cases g3
   ·
    have hv:Hid (false=LB):=ac.out.symm;clear ac;go_wp2_with (first|(go_at_call 158;(with_reducible refine (cn.out _ hF).mono ?_);rintro _ v0 ⟨rfl,e0⟩;have hF:=hF.trans e0 zr;have ba:=e0.cell ba zq;have c4:=e0.cell c4 zq;have c9:=e0.cell c9 zq;have ab:=e0.cell ab zq;have aa:=e0.cell aa zq)|(go_at_call 159;(with_reducible refine (ct.out _ hF).mono ?_);rintro _ v1 ⟨rfl,e1⟩;have hF:=hF.trans e1 zr;have c4:=e1.cell c4 zq;have c9:=e1.cell c9 zq;have ab:=e1.cell ab zq;have aa:=e1.cell aa zq)|(go_at_call 161;(with_reducible refine (co.out _ hF).mono ?_);rintro _ v2 ⟨rfl,e2⟩;have hF:=hF.trans e2 zr;have c9:=e2.cell c9 zq;have ab:=e2.cell ab zq;have aa:=e2.cell aa zq)|(go_at_call 162;(with_reducible refine (cq.out _ hF).mono ?_);rintro _ v3 ⟨rfl,e3⟩;have hF:=hF.trans e3 zr;have ab:=e3.cell ab zq;have aa:=e3.cell aa zq)|(go_at_call 154;(with_reducible refine (cu.out _ hF).mono ?_);rintro _ v4 ⟨rfl,e4⟩;have hF:=hF.trans e4 zr;have aa:=e4.cell aa zq)|(go_at_call 163;(with_reducible refine (cp.out _ hF).mono ?_);rintro _ v5 ⟨rfl,e5⟩;have hF:=hF.trans e5 zr))
    go_ret
    exact ⟨congrArg (fun z=>ze (.bool z)) hv.out,hF⟩
   cases g4
   ·
    have hv:Hid (false=LB):=ac.out.symm;clear ac;go_wp2_with (first|(go_at_call 158;(with_reducible refine (cn.out _ hF).mono ?_);rintro _ v0 ⟨rfl,e0⟩;have hF:=hF.trans e0 zr;have ba:=e0.cell ba zq;have c4:=e0.cell c4 zq;have c9:=e0.cell c9 zq;have ab:=e0.cell ab zq;have aa:=e0.cell aa zq)|(go_at_call 159;(with_reducible refine (ct.out _ hF).mono ?_);rintro _ v1 ⟨rfl,e1⟩;have hF:=hF.trans e1 zr;have c4:=e1.cell c4 zq;have c9:=e1.cell c9 zq;have ab:=e1.cell ab zq;have aa:=e1.cell aa zq)|(go_at_call 161;(with_reducible refine (co.out _ hF).mono ?_);rintro _ v2 ⟨rfl,e2⟩;have hF:=hF.trans e2 zr;have c9:=e2.cell c9 zq;have ab:=e2.cell ab zq;have aa:=e2.cell aa zq)|(go_at_call 162;(with_reducible refine (cq.out _ hF).mono ?_);rintro _ v3 ⟨rfl,e3⟩;have hF:=hF.trans e3 zr;have ab:=e3.cell ab zq;have aa:=e3.cell aa zq)|(go_at_call 154;(with_reducible refine (cu.out _ hF).mono ?_);rintro _ v4 ⟨rfl,e4⟩;have hF:=hF.trans e4 zr;have aa:=e4.cell aa zq)|(go_at_call 163;(with_reducible refine (cp.out _ hF).mono ?_);rintro _ v5 ⟨rfl,e5⟩;have hF:=hF.trans e5 zr))
    go_ret
    exact ⟨congrArg (fun z=>ze (.bool z)) hv.out,hF⟩
   cases g5
   ·
    have hv:Hid (false=LB):=ac.out.symm;clear ac;go_wp2_with (first|(go_at_call 158;(with_reducible refine (cn.out _ hF).mono ?_);rintro _ v0 ⟨rfl,e0⟩;have hF:=hF.trans e0 zr;have ba:=e0.cell ba zq;have c4:=e0.cell c4 zq;have c9:=e0.cell c9 zq;have ab:=e0.cell ab zq;have aa:=e0.cell aa zq)|(go_at_call 159;(with_reducible refine (ct.out _ hF).mono ?_);rintro _ v1 ⟨rfl,e1⟩;have hF:=hF.trans e1 zr;have c4:=e1.cell c4 zq;have c9:=e1.cell c9 zq;have ab:=e1.cell ab zq;have aa:=e1.cell aa zq)|(go_at_call 161;(with_reducible refine (co.out _ hF).mono ?_);rintro _ v2 ⟨rfl,e2⟩;have hF:=hF.trans e2 zr;have c9:=e2.cell c9 zq;have ab:=e2.cell ab zq;have aa:=e2.cell aa zq)|(go_at_call 162;(with_reducible refine (cq.out _ hF).mono ?_);rintro _ v3 ⟨rfl,e3⟩;have hF:=hF.trans e3 zr;have ab:=e3.cell ab zq;have aa:=e3.cell aa zq)|(go_at_call 154;(with_reducible refine (cu.out _ hF).mono ?_);rintro _ v4 ⟨rfl,e4⟩;have hF:=hF.trans e4 zr;have aa:=e4.cell aa zq)|(go_at_call 163;(with_reducible refine (cp.out _ hF).mono ?_);rintro _ v5 ⟨rfl,e5⟩;have hF:=hF.trans e5 zr))
    go_ret
    exact ⟨congrArg (fun z=>ze (.bool z)) hv.out,hF⟩
   have hv:Hid (g6=LB):=ac.out.symm;clear ac;go_wp2_with (first|(go_at_call 158;(with_reducible refine (cn.out _ hF).mono ?_);rintro _ v0 ⟨rfl,e0⟩;have hF:=hF.trans e0 zr;have ba:=e0.cell ba zq;have c4:=e0.cell c4 zq;have c9:=e0.cell c9 zq;have ab:=e0.cell ab zq;have aa:=e0.cell aa zq)|(go_at_call 159;(with_reducible refine (ct.out _ hF).mono ?_);rintro _ v1 ⟨rfl,e1⟩;have hF:=hF.trans e1 zr;have c4:=e1.cell c4 zq;have c9:=e1.cell c9 zq;have ab:=e1.cell ab zq;have aa:=e1.cell aa zq)|(go_at_call 161;(with_reducible refine (co.out _ hF).mono ?_);rintro _ v2 ⟨rfl,e2⟩;have hF:=hF.trans e2 zr;have c9:=e2.cell c9 zq;have ab:=e2.cell ab zq;have aa:=e2.cell aa zq)|(go_at_call 162;(with_reducible refine (cq.out _ hF).mono ?_);rintro _ v3 ⟨rfl,e3⟩;have hF:=hF.trans e3 zr;have ab:=e3.cell ab zq;have aa:=e3.cell aa zq)|(go_at_call 154;(with_reducible refine (cu.out _ hF).mono ?_);rintro _ v4 ⟨rfl,e4⟩;have hF:=hF.trans e4 zr;have aa:=e4.cell aa zq)|(go_at_call 163;(with_reducible refine (cp.out _ hF).mono ?_);rintro _ v5 ⟨rfl,e5⟩;have hF:=hF.trans e5 zr))
   go_ret
   exact ⟨congrArg (fun z=>ze (.bool z)) hv.out,hF⟩
  ·
   intro k v w3 e7 hv fo d5 ew eu fu fp;clear cn ct co cq cu cp c4 c9 ba ca ab aa;obtain ⟨c,rfl,fm⟩:=cc.entry hv;obtain ⟨y,e6,fi⟩:=Option.map_eq_some_iff.1 fm;have fh:=List.find?_some e6;obtain ⟨j,hj,hk,fg⟩:=Zw x y (List.mem_of_find?_eq_some e6);obtain rfl:y.2.1=k:=by simpa using fh
   rw [hk] at fo d5 fp ⊢;have hc:x.mayB j=c:=by rw [<- fg,fi]
   have fe:Fr (fun k=>some w1.heap.size=some k) wr w3:=Fr.grown (Fr.refl _ _) eu (fun k hk _=>hk);have fj:Fr Non w w3:=hF.trans fe (fun i hi e=>by cases e;have:=e9;omega);have fb:Fr (fun k=>w1.heap.size<=k) w2 w3:=d6.trans fe (fun i hi e=>by cases e;exact Nat.le_refl _);have ft:w3.rangeLeft b w1.heap.size<wr.rangeLeft b w1.heap.size:=by rw [d5.left_eq,d7.left_eq];exact ew
   have ff:=Yx has j hhas hj;have fx:(bits .and .i64 (has:Int) ((2^j:Nat):Int) !=0)=has.testBit j:=by rw [bne,<- Bool.not_not (has.testBit j),<- ff];rfl
   have ea:=lh (RA.step (x:=x) (has:=has) (j:=j) e8 hj);have et:=lh (fun h1 h2=>Zy (x:=x) (has:=has) hj h1 h2);generalize hpj:((2^j:Nat):Int)=pj at*;clear hv fm e6 fi fh hk fg d7 ff cc;generalize htb:has.testBit j=tb at*;generalize x.mayB j=mj at*;subst hc
   cases tb<;>cases mj
   case true.false=>
    have hv:Hid (false=LB):=by show _=_;rw [ac.out,et.out rfl rfl];rfl
    clear ac et ea;go_wp2_with fail
    go_ret
    exact ⟨congrArg (fun z=>ze (.bool z)) hv.out,fj⟩
   all_goals
    clear et ac;go_wp2_with fail;exact ⟨⟨_,e7,d5,ea.out (by decide),fj,fb⟩,ft⟩
end Oq
end
section
open Go.RowKit
attribute [local go_sem ↓] Go.wp_at_zero Go.wp_at_succ
namespace Oq
attribute [local go_sem] Bool.not_false Bool.not_true
theorem Fh {α:Type} (l:List α) (q:α->Bool) {k:Nat} {x:α} (h:l[k]? =some x):(l.take (k+1)).all q=((l.take k).all q&&q x):=by
 obtain ⟨hk,rfl⟩:=List.getElem?_eq_some_iff.1 h;rw [List.take_succ_eq_append_getElem hk,List.all_append];simp
theorem Q7 (B n c : Nat) (A : Option Addr) (l : List Bx) (w : World) (hn : Hid (l.length = n)) (hr : Rd w B 4 A n (l.flatMap Bx.cells)) (hnm : n <= 1000000) :
    Calls zp 147 #[.slice A n c] w (Ae (l.all Bx.may) w) := by
  go_enter func147, ntmps147;go_wp2
  go_loopw [3] (fun v wr => ∃ k : Nat, v = .int .i64 (k : Int) /\ k <= n /\ Hid ((l.take k).all Bx.may = true) /\ Fr Non w wr) (fun v _ => n - (intOf v).toNat)
  case atStart => exact ⟨0, rfl, by omega, rfl, Fr.refl _ _⟩
  case round =>
    obtain ⟨k, rfl, hk, hh, hf⟩ := hrel
    by_cases hlt : k < n
    · have i1 : (0 : Int) <= k := by omega
      have i2 : (k : Int) < n := by omega
      have i3 : (k : Int).toNat = k := by omega
      obtain ⟨x, hx⟩ : ∃ x, l[k]? = some x := ⟨_, As7 (by rw [hn.out]; exact hlt)⟩;obtain ⟨b, off, rfl, hbB, k0, k1, k2, k3⟩ := Bx.at (hr.fr hf (fun _ _ e => e)) hx;have hmem := As8 hx;have hsn : Hid ((l.take (k + 1)).all Bx.may = ((l.take k).all Bx.may && Bx.may x)) := Fh l Bx.may hx;have hno : Hid (Bx.may x = false -> l.all Bx.may = false) := fun h => List.all_eq_false.2 ⟨x, hmem, by rw [h]; simp⟩;have hmay : Hid (Bx.may x = (Aw x.t && Aw x.e && fOk x.y && fOk x.g)) := rfl;rw [hmay.out] at hsn hno;have q1 := lh (fun w' => Jp x.t w');have q2 := lh (fun w' => Jp x.e w');have q3 := lh (fun w' => Jr x.y w');have q4 := lh (fun w' => Jr x.g w');clear hx hmem hmay;generalize Aw x.t = b1 at *;generalize Aw x.e = b2 at *;generalize fOk x.y = b3 at *;generalize fOk x.g = b4 at *;have tok1 : True := trivial;have tok3 : True := trivial
      cases b1 <;> cases b2 <;> cases b3 <;> cases b4
      all_goals
        go_wp2_with (first
          | (have _t := tok1; go_at_call 145; (with_reducible refine (q1.out _).mono ?_); rintro _ w1 ⟨rfl, f1⟩; have k1' := f1.cell k1 (fun e => e); have k2' := f1.cell k2 (fun e => e); have k3' := f1.cell k3 (fun e => e); have fz1 := hf.trans f1 (fun _ _ e => e); clear tok1 _t)
          | (go_at_call 145; (with_reducible refine (q2.out _).mono ?_); rintro _ w2 ⟨rfl, f2⟩; have k2'' := f2.cell k2' (fun e => e); have k3'' := f2.cell k3' (fun e => e); have fz2 := fz1.trans f2 (fun _ _ e => e))
          | (have _t := tok3; go_at_call 146; (with_reducible refine (q3.out _).mono ?_); rintro _ w3 ⟨rfl, f3⟩; have k3''' := f3.cell k3'' (fun e => e); have fz3 := fz2.trans f3 (fun _ _ e => e); clear tok3 _t)
          | (go_at_call 146; (with_reducible refine (q4.out _).mono ?_); rintro _ w4 ⟨rfl, f4⟩; have fz4 := fz3.trans f4 (fun _ _ e => e)))
        first
          | (go_ret; first | exact ⟨by rw [hno.out rfl]; rfl, fz4⟩ | exact ⟨by rw [hno.out rfl]; rfl, fz3⟩ | exact ⟨by rw [hno.out rfl]; rfl, fz2⟩ | exact ⟨by rw [hno.out rfl]; rfl, fz1⟩)
          | (go_roundw
             case rel => exact ⟨k + 1, by go_num, by omega, by show _ = _; rw [hsn.out, hh.out]; rfl, fz4⟩
             case measure => simp [intOf]; omega)
    · obtain rfl : k = n := by omega
      have hfin : Hid (l.all Bx.may = true) := by have h := hh.out; rw [As9 (by rw [hn.out]; omega)] at h; exact h
      go_wp2
      go_ret
      exact ⟨by rw [hfin.out]; rfl, hf⟩
def OpL.itemsR (x:OpL):Bool:=x.guards.all (fun n=>inR n 1 12)&&(x.refs.all fOk&&(x.past.all Id.named&&(x.path.all (fun y=>Aw y.p&&y.xs.all Bx.may)&&(x.hist.all (fun y=>y.f.named)&&x.boxes.all Bx.may))))
theorem Z1 (x:OpL) (w:World) (hat:x.at w w.heap.size) (hok:x.op.ok):Calls zp 111 #[.agg x.cells] w (Ae x.itemsR w):=by
 have a5:=Blk.new w 44 x.cells;have f0:Fr Non w (w.alloc (.cells x.cells 44)):=(Fr.refl Non w).alloc _;have c4:cS (w.alloc (.cells x.cells 44)) w.heap.size 4 x.pastA x.past.length x.pastC:=a5.cell 4;have c9:cS (w.alloc (.cells x.cells 44)) w.heap.size 9 x.pathA x.path.length x.pathC:=a5.cell 9;have bg:cS (w.alloc (.cells x.cells 44)) w.heap.size 15 x.refsA x.refs.length x.refsC:=a5.cell 15;have be:cS (w.alloc (.cells x.cells 44)) w.heap.size 19 x.guardsA x.guards.length x.guardsC:=a5.cell 19;have bf:cS (w.alloc (.cells x.cells 44)) w.heap.size 22 x.boxesA x.boxes.length x.boxesC:=a5.cell 22;have bh:cS (w.alloc (.cells x.cells 44)) w.heap.size 24 x.histA x.hist.length x.histC:=a5.cell 24;have a2:x.guards.length<=1000000:=by have h:=hok.guards.1;rw [show x.op.guards=x.guards from rfl] at h;omega
 have a8:x.refs.length<=1000000:=by have h:=hok.refs.1;rw [show x.op.refs=x.refs from rfl] at h;omega
 have a1:x.boxes.length<=1000000:=by have h:=hok.boxes.1;rw [show x.op.boxes=x.boxes from rfl] at h;omega
 have a4:Hid (∀y∈x.path,y.xs.length<=1000000):=fun y hy=>by have h:=(hok.path.2 y.nd (List.mem_map.2 ⟨y,hy,rfl⟩)).2.1;rw [show y.nd.xs=y.xs from rfl] at h;omega
 have ba:x.past.length<=1000000:=by have h:=hok.past.1;rw [show x.op.past=x.past from rfl] at h;omega
 have bb:x.path.length<=1000000:=by have h:=hok.path.1;rw [show x.op.path=x.path.map NdL.nd from rfl,At0] at h;omega
 have a9:x.hist.length<=1000000:=by have h:=hok.hist.1;rw [show x.op.hist=x.hist.map SlL.sl from rfl,At0] at h;omega
 have a6:Hid (∀y∈x.path,y.at (w.alloc (.cells x.cells 44)) w.heap.size):=fun y hy=>(hat.nodes y hy).fr f0 zr;have aw:=hat.past.1.fr f0 zr;have ay:=hat.path.1.fr f0 zr;have az:=hat.refs.1.fr f0 zr;have aq:=hat.guards.1.fr f0 zr;have ax:=hat.boxes.1.fr f0 zr;have a0:=hat.hist.1.fr f0 zr;have aa:Hid (x.itemsR=(x.guards.all (fun n=>inR n 1 12)&&(x.refs.all fOk&&(x.past.all Id.named&&(x.path.all (fun y=>Aw y.p&&y.xs.all Bx.may)&&(x.hist.all (fun y=>y.f.named)&&x.boxes.all Bx.may)))))):=rfl;generalize x.itemsR=LB at*;obtain ⟨ak,ah⟩:=Aa x.past.length;rw [ah.out] at aw ba c4;obtain ⟨aj,ag⟩:=Aa x.path.length;rw [ag.out] at ay bb c9;obtain ⟨al,ae⟩:=Aa x.refs.length;rw [ae.out] at az a8 bg;obtain ⟨ab,ac⟩:=Aa x.guards.length;rw [ac.out] at aq a2 be;obtain ⟨a3,au⟩:=Aa x.boxes.length;rw [au.out] at ax a1 bf;obtain ⟨ai,af⟩:=Aa x.hist.length;rw [af.out] at a0 a9 bh;generalize x.cells=CS at*;clear a5 hat hok;go_enter func111,ntmps111;go_upto_region 1 with (fail)
 generalize w.alloc (.cells CS 44)=w0 at*;go_wp2_with fail
 go_loopw [3] (fun v wr=>∃k:Nat,v=.int .i64 (k:Int)/\k<=ab/\Hid ((x.guards.take k).all (fun n=>inR n 1 12)=true)/\Fr Non w0 wr) (fun v _=>ab-(intOf v).toNat)
 case atStart=>exact ⟨0,rfl,by omega,rfl,Fr.refl _ _⟩
 case round=>
  obtain ⟨k,rfl,hk,hh,hf⟩:=hrel;have cc:=hf.cell be zq
  by_cases hlt:k<ab
  ·
   have i1:(0:Int)<=k:=by omega
   have i2:(k:Int)<ab:=by omega
   have i3:(k:Int).toNat=k:=by omega
   obtain ⟨y,hy⟩:∃y,x.guards[k]? =some y:=⟨_,As7 (by rw [ac.out];exact hlt)⟩;obtain ⟨b,a7,u,hA,bd,hu,k0⟩:=(aq.fr hf zr).at hlt;rw [At1,hy] at hu;obtain rfl:=(Option.some.inj hu).symm;replace k0:cI wr b (a7+k) y:=k0;rw [hA] at cc;have ad:=As8 hy;have ap:Hid ((x.guards.take (k+1)).all (fun n=>inR n 1 12)=((x.guards.take k).all (fun n=>inR n 1 12)&&inR y 1 12)):=Fh x.guards (fun n=>inR n 1 12) hy;have ao:Hid (inR y 1 12=false->x.guards.all (fun n=>inR n 1 12)=false):=fun h=>List.all_eq_false.2 ⟨y,ad,by rw [h];simp⟩;clear hy ad;have kc:=lh (fun w'=>Gt y 1 12 w');generalize inR y 1 12=pb at*
   cases pb
   ·
    have hv:Hid (false=LB):=by show _=_;rw [aa.out,ao.out rfl];rfl
    clear aa ao ap;go_wp2_with (go_at_call 143;(with_reducible refine (kc.out _).mono ?_);rintro _ w1 ⟨rfl,f1⟩)
    go_ret
    exact ⟨congrArg (fun z=>ze (.bool z)) hv.out,(f0.trans hf zr).trans f1 zr⟩
   ·
    have ar:Hid ((x.guards.take (k+1)).all (fun n=>inR n 1 12)=true):=by show _=_;rw [ap.out,hh.out];rfl
    clear ao ap;go_wp2_with (go_at_call 143;(with_reducible refine (kc.out _).mono ?_);rintro _ w1 ⟨rfl,f1⟩);go_roundw
    case rel=>exact ⟨k+1,by go_num,by omega,ar,hf.trans f1 zr⟩
    case measure=>simp [intOf];omega
  ·
   obtain rfl:ab=k:=by omega
   have av:x.guards.all (fun n=>inR n 1 12)=true:=by have h:=hh.out;rw [As9 (by rw [ac.out];omega)] at h;exact h
   replace aa:Hid (LB=(x.refs.all fOk&&(x.past.all Id.named&&(x.path.all (fun y=>Aw y.p&&y.xs.all Bx.may)&&(x.hist.all (fun y=>y.f.named)&&(x.boxes.all Bx.may)))))):=by show _=_;rw [aa.out,av];rfl
   clear av hh aq ac hlt hk;go_wp2_with fail
   go_loopw [4] (fun v wr=>∃k:Nat,v=.int .i64 (k:Int)/\k<=al/\Hid ((x.refs.take k).all fOk=true)/\Fr Non w0 wr) (fun v _=>al-(intOf v).toNat)
   case atStart=>exact ⟨0,rfl,by omega,rfl,hf⟩
   case round=>
    obtain ⟨k,rfl,hk,hh,hf⟩:=hrel;have cc:=hf.cell bg zq
    by_cases hlt:k<al
    ·
     have i1:(0:Int)<=k:=by omega
     have i2:(k:Int)<al:=by omega
     have i3:(k:Int).toNat=k:=by omega
     obtain ⟨y,hy⟩:∃y,x.refs[k]? =some y:=⟨_,As7 (by rw [ae.out];exact hlt)⟩;obtain ⟨b,a7,u,hA,bd,hu,k0⟩:=(az.fr hf zr).at hlt;rw [At1,hy] at hu;obtain rfl:=(Option.some.inj hu).symm;replace k0:cU wr b (a7+k) y:=k0;rw [hA] at cc;have ad:=As8 hy;have ap:Hid ((x.refs.take (k+1)).all fOk=((x.refs.take k).all fOk&&fOk y)):=Fh x.refs fOk hy;have ao:Hid (fOk y=false->x.refs.all fOk=false):=fun h=>List.all_eq_false.2 ⟨y,ad,by rw [h];simp⟩;clear hy ad;have kc:=lh (fun w'=>Jr y w');generalize fOk y=pb at*
     cases pb
     ·
      have hv:Hid (false=LB):=by show _=_;rw [aa.out,ao.out rfl];rfl
      clear aa ao ap;go_wp2_with (go_at_call 146;(with_reducible refine (kc.out _).mono ?_);rintro _ w1 ⟨rfl,f1⟩)
      go_ret
      exact ⟨congrArg (fun z=>ze (.bool z)) hv.out,(f0.trans hf zr).trans f1 zr⟩
     ·
      have ar:Hid ((x.refs.take (k+1)).all fOk=true):=by show _=_;rw [ap.out,hh.out];rfl
      clear ao ap;go_wp2_with (go_at_call 146;(with_reducible refine (kc.out _).mono ?_);rintro _ w1 ⟨rfl,f1⟩);go_roundw
      case rel=>exact ⟨k+1,by go_num,by omega,ar,hf.trans f1 zr⟩
      case measure=>simp [intOf];omega
    ·
     obtain rfl:al=k:=by omega
     have av:x.refs.all fOk=true:=by have h:=hh.out;rw [As9 (by rw [ae.out];omega)] at h;exact h
     replace aa:Hid (LB=(x.past.all Id.named&&(x.path.all (fun y=>Aw y.p&&y.xs.all Bx.may)&&(x.hist.all (fun y=>y.f.named)&&(x.boxes.all Bx.may))))):=by show _=_;rw [aa.out,av];rfl
     clear av hh az ae hlt hk;go_wp2_with fail
     go_loopw [5] (fun v wr=>∃k:Nat,v=.int .i64 (k:Int)/\k<=ak/\Hid ((x.past.take k).all Id.named=true)/\Fr Non w0 wr) (fun v _=>ak-(intOf v).toNat)
     case atStart=>exact ⟨0,rfl,by omega,rfl,hf⟩
     case round=>
      obtain ⟨k,rfl,hk,hh,hf⟩:=hrel;have cc:=hf.cell c4 zq
      by_cases hlt:k<ak
      ·
       have i1:(0:Int)<=k:=by omega
       have i2:(k:Int)<ak:=by omega
       have i3:(k:Int).toNat=k:=by omega
       obtain ⟨y,hy⟩:∃y,x.past[k]? =some y:=⟨_,As7 (by rw [ah.out];exact hlt)⟩;obtain ⟨b,a7,hA,bd,k0,k1,k2⟩:=Id.at (aw.fr hf zr) hy;rw [hA] at cc;have ad:=As8 hy;have ap:Hid ((x.past.take (k+1)).all Id.named=((x.past.take k).all Id.named&&y.named)):=Fh x.past Id.named hy;have ao:Hid (y.named=false->x.past.all Id.named=false):=fun h=>List.all_eq_false.2 ⟨y,ad,by rw [h];simp⟩;clear hy ad;have kc:=lh (fun w'=>Mh y w');generalize y.named=pb at*
       cases pb
       ·
        have hv:Hid (false=LB):=by show _=_;rw [aa.out,ao.out rfl];rfl
        clear aa ao ap;go_wp2_with (go_at_call 144;(with_reducible refine (kc.out _).mono ?_);rintro _ w1 ⟨rfl,f1⟩)
        go_ret
        exact ⟨congrArg (fun z=>ze (.bool z)) hv.out,(f0.trans hf zr).trans f1 zr⟩
       ·
        have ar:Hid ((x.past.take (k+1)).all Id.named=true):=by show _=_;rw [ap.out,hh.out];rfl
        clear ao ap;go_wp2_with (go_at_call 144;(with_reducible refine (kc.out _).mono ?_);rintro _ w1 ⟨rfl,f1⟩);go_roundw
        case rel=>exact ⟨k+1,by go_num,by omega,ar,hf.trans f1 zr⟩
        case measure=>simp [intOf];omega
      ·
       obtain rfl:ak=k:=by omega
       have av:x.past.all Id.named=true:=by have h:=hh.out;rw [As9 (by rw [ah.out];omega)] at h;exact h
       replace aa:Hid (LB=(x.path.all (fun y=>Aw y.p&&y.xs.all Bx.may)&&(x.hist.all (fun y=>y.f.named)&&(x.boxes.all Bx.may)))):=by show _=_;rw [aa.out,av];rfl
       clear av hh aw ah hlt hk;go_wp2_with fail
       go_loopw [6] (fun v wr=>∃k:Nat,v=.int .i64 (k:Int)/\k<=aj/\Hid ((x.path.take k).all (fun y=>Aw y.p&&y.xs.all Bx.may)=true)/\Fr Non w0 wr) (fun v _=>aj-(intOf v).toNat)
       case atStart=>exact ⟨0,rfl,by omega,rfl,hf⟩
       case round=>
        obtain ⟨k,rfl,hk,hh,hf⟩:=hrel;have cc:=hf.cell c9 zq
        by_cases hlt:k<aj
        ·
         have i1:(0:Int)<=k:=by omega
         have i2:(k:Int)<aj:=by omega
         have i3:(k:Int).toNat=k:=by omega
         obtain ⟨y,hy⟩:∃y,x.path[k]? =some y:=⟨_,As7 (by rw [ag.out];exact hlt)⟩;obtain ⟨b,a7,hA,bd,k0,k1⟩:=NdL.el (ay.fr hf zr) hy;rw [hA] at cc;have ad:=As8 hy;have ap:Hid ((x.path.take (k+1)).all (fun y=>Aw y.p&&y.xs.all Bx.may)=((x.path.take k).all (fun y=>Aw y.p&&y.xs.all Bx.may)&&(Aw y.p&&y.xs.all Bx.may))):=Fh x.path (fun y=>Aw y.p&&y.xs.all Bx.may) hy;have ao:Hid ((Aw y.p&&y.xs.all Bx.may)=false->x.path.all (fun y=>Aw y.p&&y.xs.all Bx.may)=false):=fun h=>List.all_eq_false.2 ⟨y,ad,by rw [h];simp⟩;have bj:=(a6.out y ad).fr hf zr;have bi:=a4.out y ad;clear hy ad;have kc:=lh (fun w'=>Jp y.p w');have kd:=lh (fun w' (h:Fr Non wr w')=>Q7 w.heap.size y.xs.length y.c y.A y.xs w' rfl (bj.1.fr h zr) bi);generalize Aw y.p=pb at*;generalize y.xs.all Bx.may=pd at*
         cases pb
         ·
          have hv:Hid (false=LB):=by show _=_;rw [aa.out,ao.out rfl];rfl
          clear aa ao ap;go_wp2_with (first|(go_at_call 145;(with_reducible refine (kc.out _).mono ?_);rintro _ w1 ⟨rfl,f1⟩;have cc:=f1.cell cc zq;have k0:=f1.cell k0 zq;have k1:=f1.cell k1 zq)|(go_at_call 147;(with_reducible refine (kd.out _ f1).mono ?_);rintro _ w2 ⟨rfl,f2⟩;have bc:=f1.trans f2 zr))
          go_ret
          exact ⟨congrArg (fun z=>ze (.bool z)) hv.out,(f0.trans hf zr).trans f1 zr⟩
         cases pd
         ·
          have hv:Hid (false=LB):=by show _=_;rw [aa.out,ao.out rfl];rfl
          clear aa ao ap;go_wp2_with (first|(go_at_call 145;(with_reducible refine (kc.out _).mono ?_);rintro _ w1 ⟨rfl,f1⟩;have cc:=f1.cell cc zq;have k0:=f1.cell k0 zq;have k1:=f1.cell k1 zq)|(go_at_call 147;(with_reducible refine (kd.out _ f1).mono ?_);rintro _ w2 ⟨rfl,f2⟩;have bc:=f1.trans f2 zr))
          go_ret
          exact ⟨congrArg (fun z=>ze (.bool z)) hv.out,(f0.trans hf zr).trans bc zr⟩
         ·
          have ar:Hid ((x.path.take (k+1)).all (fun y=>Aw y.p&&y.xs.all Bx.may)=true):=by show _=_;rw [ap.out,hh.out];rfl
          clear ao ap;go_wp2_with (first|(go_at_call 145;(with_reducible refine (kc.out _).mono ?_);rintro _ w1 ⟨rfl,f1⟩;have cc:=f1.cell cc zq;have k0:=f1.cell k0 zq;have k1:=f1.cell k1 zq)|(go_at_call 147;(with_reducible refine (kd.out _ f1).mono ?_);rintro _ w2 ⟨rfl,f2⟩;have bc:=f1.trans f2 zr));go_roundw
          case rel=>exact ⟨k+1,by go_num,by omega,ar,hf.trans bc zr⟩
          case measure=>simp [intOf];omega
        ·
         obtain rfl:aj=k:=by omega
         have av:x.path.all (fun y=>Aw y.p&&y.xs.all Bx.may)=true:=by have h:=hh.out;rw [As9 (by rw [ag.out];omega)] at h;exact h
         replace aa:Hid (LB=(x.hist.all (fun y=>y.f.named)&&(x.boxes.all Bx.may))):=by show _=_;rw [aa.out,av];rfl
         clear av hh ay ag hlt hk;go_wp2_with fail
         go_loopw [7] (fun v wr=>∃k:Nat,v=.int .i64 (k:Int)/\k<=ai/\Hid ((x.hist.take k).all (fun y=>y.f.named)=true)/\Fr Non w0 wr) (fun v _=>ai-(intOf v).toNat)
         case atStart=>exact ⟨0,rfl,by omega,rfl,hf⟩
         case round=>
          obtain ⟨k,rfl,hk,hh,hf⟩:=hrel;have cc:=hf.cell bh zq
          by_cases hlt:k<ai
          ·
           have i1:(0:Int)<=k:=by omega
           have i2:(k:Int)<ai:=by omega
           have i3:(k:Int).toNat=k:=by omega
           obtain ⟨y,hy⟩:∃y,x.hist[k]? =some y:=⟨_,As7 (by rw [af.out];exact hlt)⟩;obtain ⟨b,a7,hA,bd,k0,k1,k2,k3⟩:=SlL.el (a0.fr hf zr) hy;rw [hA] at cc;have ad:=As8 hy;have ap:Hid ((x.hist.take (k+1)).all (fun y=>y.f.named)=((x.hist.take k).all (fun y=>y.f.named)&&y.f.named)):=Fh x.hist (fun y=>y.f.named) hy;have ao:Hid (y.f.named=false->x.hist.all (fun y=>y.f.named)=false):=fun h=>List.all_eq_false.2 ⟨y,ad,by rw [h];simp⟩;clear hy ad;have kc:=lh (fun w'=>Mh y.f w');generalize y.f.named=pb at*
           cases pb
           ·
            have hv:Hid (false=LB):=by show _=_;rw [aa.out,ao.out rfl];rfl
            clear aa ao ap;go_wp2_with (go_at_call 144;(with_reducible refine (kc.out _).mono ?_);rintro _ w1 ⟨rfl,f1⟩)
            go_ret
            exact ⟨congrArg (fun z=>ze (.bool z)) hv.out,(f0.trans hf zr).trans f1 zr⟩
           ·
            have ar:Hid ((x.hist.take (k+1)).all (fun y=>y.f.named)=true):=by show _=_;rw [ap.out,hh.out];rfl
            clear ao ap;go_wp2_with (go_at_call 144;(with_reducible refine (kc.out _).mono ?_);rintro _ w1 ⟨rfl,f1⟩);go_roundw
            case rel=>exact ⟨k+1,by go_num,by omega,ar,hf.trans f1 zr⟩
            case measure=>simp [intOf];omega
          ·
           obtain rfl:ai=k:=by omega
           have av:x.hist.all (fun y=>y.f.named)=true:=by have h:=hh.out;rw [As9 (by rw [af.out];omega)] at h;exact h
           replace aa:Hid (LB=(x.boxes.all Bx.may)):=by show _=_;rw [aa.out,av];rfl
           clear av hh a0 af hlt hk;have cb:=hf.cell bf zq;have kb:=lh (Q7 w.heap.size a3 x.boxesC x.boxesA x.boxes wr au (ax.fr hf zr) a1);rw [<- aa.out] at kb;clear aa;go_wp2_with (go_at_call 147;(with_reducible refine kb.out.mono ?_);rintro _ w2 ⟨rfl,f2⟩)
           go_ret
           exact ⟨rfl,(f0.trans hf zr).trans f2 zr⟩
def OpL.numsR (x:OpL):Bool:=(inR x.by_ 1 12&&inR x.sq 1 2147483647&&inR x.at_ 0 2147483647)&&(
 bif (x.kind==1) then inR x.need 0 20 else
 bif (x.kind==2) then (inR x.dev 1 12&&inR x.role 1 3) else
 bif (x.kind==3) then ((inR x.dev 1 12&&(x.mem==0))||((x.dev==0)&&inR x.mem 1 8)) else
 bif (x.kind==5) then (inR x.mem 1 8&&inR x.role 1 3) else
 bif (x.kind==6) then (x.epoch.named&&inR x.n 0 2147483647) else
 bif (x.kind==9) then (inR x.need 1 x.guards.length&&inR x.wait 0 2147483647&&Aw x.pub) else
 bif (x.kind==11) then (x.of.named&&inR x.dev 1 12) else
 bif (x.kind==13) then (x.of.named&&inR x.dev 1 12&&inR x.old 1 12) else
 bif (x.kind==4) then true else
 x.of.named)
theorem Z2 (x:OpL) (w:World):Calls zp 110 #[.agg x.cells] w (Ae x.numsR w):=by
 have ab:=Blk.new w 44 x.cells;have fz:Fr Non w (w.alloc (.cells x.cells 44)):=(Fr.refl Non w).alloc _;have c0:cI (w.alloc (.cells x.cells 44)) w.heap.size 0 x.by_:=ab.cell 0;have c1:cI (w.alloc (.cells x.cells 44)) w.heap.size 1 x.sq:=ab.cell 1;have c2:cI (w.alloc (.cells x.cells 44)) w.heap.size 2 x.kind:=ab.cell 2;have c3:cI (w.alloc (.cells x.cells 44)) w.heap.size 3 x.at_:=ab.cell 3;have c5:cI (w.alloc (.cells x.cells 44)) w.heap.size 5 x.dev:=ab.cell 5;have c6:cI (w.alloc (.cells x.cells 44)) w.heap.size 6 x.old:=ab.cell 6;have c7:cI (w.alloc (.cells x.cells 44)) w.heap.size 7 x.mem:=ab.cell 7;have c8:cI (w.alloc (.cells x.cells 44)) w.heap.size 8 x.role:=ab.cell 8;have ag:cI (w.alloc (.cells x.cells 44)) w.heap.size 10 x.epoch.b:=ab.cell 10;have aj:cI (w.alloc (.cells x.cells 44)) w.heap.size 11 x.epoch.s:=ab.cell 11;have ah:cU (w.alloc (.cells x.cells 44)) w.heap.size 12 x.epoch.u:=ab.cell 12;have ac:cI (w.alloc (.cells x.cells 44)) w.heap.size 13 x.n:=ab.cell 13;have ad:cI (w.alloc (.cells x.cells 44)) w.heap.size 16 x.of.b:=ab.cell 16;have ak:cI (w.alloc (.cells x.cells 44)) w.heap.size 17 x.of.s:=ab.cell 17;have ae:cU (w.alloc (.cells x.cells 44)) w.heap.size 18 x.of.u:=ab.cell 18;have af:cS (w.alloc (.cells x.cells 44)) w.heap.size 19 x.guardsA x.guards.length x.guardsC:=ab.cell 19;have ai:cI (w.alloc (.cells x.cells 44)) w.heap.size 20 x.need:=ab.cell 20;have al:cI (w.alloc (.cells x.cells 44)) w.heap.size 21 x.wait:=ab.cell 21;have ao:cU (w.alloc (.cells x.cells 44)) w.heap.size 23 x.pub:=ab.cell 23;generalize x.cells=CS at*;clear ab;have ax:Hid (x.numsR=x.numsR):=rfl;have aa:Hid (x.numsR=((inR x.by_ 1 12&&inR x.sq 1 2147483647&&inR x.at_ 0 2147483647)&&(
 bif (x.kind==1) then inR x.need 0 20 else
 bif (x.kind==2) then (inR x.dev 1 12&&inR x.role 1 3) else
 bif (x.kind==3) then ((inR x.dev 1 12&&(x.mem==0))||((x.dev==0)&&inR x.mem 1 8)) else
 bif (x.kind==5) then (inR x.mem 1 8&&inR x.role 1 3) else
 bif (x.kind==6) then (x.epoch.named&&inR x.n 0 2147483647) else
 bif (x.kind==9) then (inR x.need 1 x.guards.length&&inR x.wait 0 2147483647&&Aw x.pub) else
 bif (x.kind==11) then (x.of.named&&inR x.dev 1 12) else
 bif (x.kind==13) then (x.of.named&&inR x.dev 1 12&&inR x.old 1 12) else
 bif (x.kind==4) then true else
 x.of.named))):=rfl
 generalize hLB:x.numsR=LB at*;clear hLB ax
 rcases zb (inR x.by_ 1 12) with t1|t1
 focus
  rcases zb (inR x.sq 1 2147483647) with t2|t2
  focus
   rcases zb (inR x.at_ 0 2147483647) with t3|t3
   focus
    rcases zb (x.kind==1) with t4|t4
    focus
     have a0:(x.kind !=1)=false:=by rw [bne,t4];rfl
     rcases zb (inR x.need 0 20) with t5|t5
     focus
      have hv:Hid (true=LB):=by show _=_;rw [aa.out];simp [t1,t2,t3,t4,t5]
     rotate_left
     focus
      have hv:Hid (false=LB):=by show _=_;rw [aa.out];simp [t1,t2,t3,t4,t5]
    rotate_left 2
    focus
     have a0:(x.kind !=1)=true:=by rw [bne,t4];rfl
     rcases zb (x.kind==2) with t6|t6
     focus
      have ay:(x.kind !=2)=false:=by rw [bne,t6];rfl
      rcases zb (inR x.dev 1 12) with t7|t7
      focus
       rcases zb (inR x.role 1 3) with t8|t8
       focus
        have hv:Hid (true=LB):=by show _=_;rw [aa.out];simp [t1,t2,t3,t4,t6,t7,t8]
       rotate_left
       focus
        have hv:Hid (false=LB):=by show _=_;rw [aa.out];simp [t1,t2,t3,t4,t6,t7,t8]
      rotate_left 2
      focus
       have hv:Hid (false=LB):=by show _=_;rw [aa.out];simp [t1,t2,t3,t4,t6,t7]
     rotate_left 3
     focus
      have ay:(x.kind !=2)=true:=by rw [bne,t6];rfl
      rcases zb (x.kind==3) with t9|t9
      focus
       have az:(x.kind !=3)=false:=by rw [bne,t9];rfl
       rcases zb (inR x.dev 1 12) with t10|t10
       focus
        rcases zb (x.mem==0) with t11|t11
        focus
         have hv:Hid (true=LB):=by show _=_;rw [aa.out];simp [t1,t2,t3,t4,t6,t9,t10,t11]
        rotate_left
        focus
         rcases zb (x.dev==0) with t12|t12
         focus
          rcases zb (inR x.mem 1 8) with t13|t13
          focus
           have hv:Hid (true=LB):=by show _=_;rw [aa.out];simp [t1,t2,t3,t4,t6,t9,t10,t11,t12,t13]
          rotate_left
          focus
           have hv:Hid (false=LB):=by show _=_;rw [aa.out];simp [t1,t2,t3,t4,t6,t9,t10,t11,t12,t13]
         rotate_left 2
         focus
          have hv:Hid (false=LB):=by show _=_;rw [aa.out];simp [t1,t2,t3,t4,t6,t9,t10,t11,t12]
       rotate_left 4
       focus
        rcases zb (x.dev==0) with t14|t14
        focus
         rcases zb (inR x.mem 1 8) with t15|t15
         focus
          have hv:Hid (true=LB):=by show _=_;rw [aa.out];simp [t1,t2,t3,t4,t6,t9,t10,t14,t15]
         rotate_left
         focus
          have hv:Hid (false=LB):=by show _=_;rw [aa.out];simp [t1,t2,t3,t4,t6,t9,t10,t14,t15]
        rotate_left 2
        focus
         have hv:Hid (false=LB):=by show _=_;rw [aa.out];simp [t1,t2,t3,t4,t6,t9,t10,t14]
      rotate_left 7
      focus
       have az:(x.kind !=3)=true:=by rw [bne,t9];rfl
       rcases zb (x.kind==5) with t16|t16
       focus
        have aw:(x.kind !=5)=false:=by rw [bne,t16];rfl
        rcases zb (inR x.mem 1 8) with t17|t17
        focus
         rcases zb (inR x.role 1 3) with t18|t18
         focus
          have hv:Hid (true=LB):=by show _=_;rw [aa.out];simp [t1,t2,t3,t4,t6,t9,t16,t17,t18]
         rotate_left
         focus
          have hv:Hid (false=LB):=by show _=_;rw [aa.out];simp [t1,t2,t3,t4,t6,t9,t16,t17,t18]
        rotate_left 2
        focus
         have hv:Hid (false=LB):=by show _=_;rw [aa.out];simp [t1,t2,t3,t4,t6,t9,t16,t17]
       rotate_left 3
       focus
        have aw:(x.kind !=5)=true:=by rw [bne,t16];rfl
        rcases zb (x.kind==6) with t19|t19
        focus
         have au:(x.kind !=6)=false:=by rw [bne,t19];rfl
         rcases zb (x.epoch.named) with t20|t20
         focus
          rcases zb (inR x.n 0 2147483647) with t21|t21
          focus
           have hv:Hid (true=LB):=by show _=_;rw [aa.out];simp [t1,t2,t3,t4,t6,t9,t16,t19,t20,t21]
          rotate_left
          focus
           have hv:Hid (false=LB):=by show _=_;rw [aa.out];simp [t1,t2,t3,t4,t6,t9,t16,t19,t20,t21]
         rotate_left 2
         focus
          have hv:Hid (false=LB):=by show _=_;rw [aa.out];simp [t1,t2,t3,t4,t6,t9,t16,t19,t20]
        rotate_left 3
        focus
         have au:(x.kind !=6)=true:=by rw [bne,t19];rfl
         rcases zb (x.kind==9) with t22|t22
         focus
          have ar:(x.kind !=9)=false:=by rw [bne,t22];rfl
          rcases zb (inR x.need 1 x.guards.length) with t23|t23
          focus
           rcases zb (inR x.wait 0 2147483647) with t24|t24
           focus
            rcases zb (Aw x.pub) with t25|t25
            focus
             have hv:Hid (true=LB):=by show _=_;rw [aa.out];simp [t1,t2,t3,t4,t6,t9,t16,t19,t22,t23,t24,t25]
            rotate_left
            focus
             have hv:Hid (false=LB):=by show _=_;rw [aa.out];simp [t1,t2,t3,t4,t6,t9,t16,t19,t22,t23,t24,t25]
           rotate_left 2
           focus
            have hv:Hid (false=LB):=by show _=_;rw [aa.out];simp [t1,t2,t3,t4,t6,t9,t16,t19,t22,t23,t24]
          rotate_left 3
          focus
           have hv:Hid (false=LB):=by show _=_;rw [aa.out];simp [t1,t2,t3,t4,t6,t9,t16,t19,t22,t23]
         rotate_left 4
         focus
          have ar:(x.kind !=9)=true:=by rw [bne,t22];rfl
          rcases zb (x.kind==11) with t26|t26
          focus
           have av:(x.kind !=11)=false:=by rw [bne,t26];rfl
           rcases zb (x.of.named) with t27|t27
           focus
            rcases zb (inR x.dev 1 12) with t28|t28
            focus
             have hv:Hid (true=LB):=by show _=_;rw [aa.out];simp [t1,t2,t3,t4,t6,t9,t16,t19,t22,t26,t27,t28]
            rotate_left
            focus
             have hv:Hid (false=LB):=by show _=_;rw [aa.out];simp [t1,t2,t3,t4,t6,t9,t16,t19,t22,t26,t27,t28]
           rotate_left 2
           focus
            have hv:Hid (false=LB):=by show _=_;rw [aa.out];simp [t1,t2,t3,t4,t6,t9,t16,t19,t22,t26,t27]
          rotate_left 3
          focus
           have av:(x.kind !=11)=true:=by rw [bne,t26];rfl
           rcases zb (x.kind==13) with t29|t29
           focus
            have ap:(x.kind !=13)=false:=by rw [bne,t29];rfl
            rcases zb (x.of.named) with t30|t30
            focus
             rcases zb (inR x.dev 1 12) with t31|t31
             focus
              rcases zb (inR x.old 1 12) with t32|t32
              focus
               have hv:Hid (true=LB):=by show _=_;rw [aa.out];simp [t1,t2,t3,t4,t6,t9,t16,t19,t22,t26,t29,t30,t31,t32]
              rotate_left
              focus
               have hv:Hid (false=LB):=by show _=_;rw [aa.out];simp [t1,t2,t3,t4,t6,t9,t16,t19,t22,t26,t29,t30,t31,t32]
             rotate_left 2
             focus
              have hv:Hid (false=LB):=by show _=_;rw [aa.out];simp [t1,t2,t3,t4,t6,t9,t16,t19,t22,t26,t29,t30,t31]
            rotate_left 3
            focus
             have hv:Hid (false=LB):=by show _=_;rw [aa.out];simp [t1,t2,t3,t4,t6,t9,t16,t19,t22,t26,t29,t30]
           rotate_left 4
           focus
            have ap:(x.kind !=13)=true:=by rw [bne,t29];rfl
            rcases zb (x.kind==4) with t33|t33
            focus
             have aq:(x.kind !=4)=false:=by rw [bne,t33];rfl
             have hv:Hid (true=LB):=by show _=_;rw [aa.out];simp [t1,t2,t3,t4,t6,t9,t16,t19,t22,t26,t29,t33]
            rotate_left
            focus
             have aq:(x.kind !=4)=true:=by rw [bne,t33];rfl
             rcases zb (x.of.named) with t34|t34
             focus
              have hv:Hid (true=LB):=by show _=_;rw [aa.out];simp [t1,t2,t3,t4,t6,t9,t16,t19,t22,t26,t29,t33,t34]
             rotate_left
             focus
              have hv:Hid (false=LB):=by show _=_;rw [aa.out];simp [t1,t2,t3,t4,t6,t9,t16,t19,t22,t26,t29,t33,t34]
   rotate_left 32
   focus
    have hv:Hid (false=LB):=by show _=_;rw [aa.out];simp [t1,t2,t3]
  rotate_left 33
  focus
   have hv:Hid (false=LB):=by show _=_;rw [aa.out];simp [t1,t2]
 rotate_left 34
 focus
  have hv:Hid (false=LB):=by show _=_;rw [aa.out];simp [t1]
 all_goals
  clear aa;go_enter func110,ntmps110;go_wp2_with (first|(go_at_call 143;(with_reducible refine (Gt _ _ _ _).mono ?_);rintro _ v ⟨rfl,f⟩;have fz:=fz.trans f zr;have c0:=f.cell c0 zq;have c1:=f.cell c1 zq;have c2:=f.cell c2 zq;have c3:=f.cell c3 zq;have c5:=f.cell c5 zq;have c6:=f.cell c6 zq;have c7:=f.cell c7 zq;have c8:=f.cell c8 zq;have ag:=f.cell ag zq;have aj:=f.cell aj zq;have ah:=f.cell ah zq;have ac:=f.cell ac zq;have ad:=f.cell ad zq;have ak:=f.cell ak zq;have ae:=f.cell ae zq;have af:=f.cell af zq;have ai:=f.cell ai zq;have al:=f.cell al zq;have ao:=f.cell ao zq)|(go_at_call 144;(with_reducible refine (Mh _ _).mono ?_);rintro _ v ⟨rfl,f⟩;have fz:=fz.trans f zr;have c0:=f.cell c0 zq;have c1:=f.cell c1 zq;have c2:=f.cell c2 zq;have c3:=f.cell c3 zq;have c5:=f.cell c5 zq;have c6:=f.cell c6 zq;have c7:=f.cell c7 zq;have c8:=f.cell c8 zq;have ag:=f.cell ag zq;have aj:=f.cell aj zq;have ah:=f.cell ah zq;have ac:=f.cell ac zq;have ad:=f.cell ad zq;have ak:=f.cell ak zq;have ae:=f.cell ae zq;have af:=f.cell af zq;have ai:=f.cell ai zq;have al:=f.cell al zq;have ao:=f.cell ao zq)|(go_at_call 145;(with_reducible refine (Jp _ _).mono ?_);rintro _ v ⟨rfl,f⟩;have fz:=fz.trans f zr;have c0:=f.cell c0 zq;have c1:=f.cell c1 zq;have c2:=f.cell c2 zq;have c3:=f.cell c3 zq;have c5:=f.cell c5 zq;have c6:=f.cell c6 zq;have c7:=f.cell c7 zq;have c8:=f.cell c8 zq;have ag:=f.cell ag zq;have aj:=f.cell aj zq;have ah:=f.cell ah zq;have ac:=f.cell ac zq;have ad:=f.cell ad zq;have ak:=f.cell ak zq;have ae:=f.cell ae zq;have af:=f.cell af zq;have ai:=f.cell ai zq;have al:=f.cell al zq;have ao:=f.cell ao zq))
  go_ret
  exact ⟨congrArg (fun z=>ze (.bool z)) hv.out,fz⟩
end Oq
end
end Go.Proofs.YtihfebhfgliojaaGreatDoor
