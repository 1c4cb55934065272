/-
  Contracts of the functions that the claim's statement reaches, walked one by one (part 10).
  Conditions: as each theorem says.
-/
import Derived.Deep.CutBlock
import Derived.Deep.Cut
import Derived.Test.YtafonabghnogaaaGreatDoorGrM2
import Derived.Test.YtafonabghnogaaaGreatDoorGrM4
import Derived.Test.YtafonabghnogaaaGreatDoorGrM9
set_option maxRecDepth 100000
set_option maxHeartbeats 16000000
open List renaming getElem?_eq_getElem→Al1,mem_of_getElem?→Al2,take_of_length_le→Al3,length_map→Al4,getElem?_map→Al5
namespace Go.Proofs.YtafonabghnogaaaGreatDoor
section
open Go.RowKit Go.Maps
attribute [local go_sem ↓] Go.wp_at_zero Go.wp_at_succ
namespace Oq
attribute [local go_sem] Bool.not_false Bool.not_true
def OpL.ls (x:OpL):Int:=if x.kind=3 then 0 else 1
def OpL.nd (x:OpL):Int:=if x.kind=1 then 0 else 1
def OpL.mo (x:OpL):Int:=if x.kind=1 then 20 else (x.guards.length:Int)
def OpL.mb (x:OpL):Bool:=if x.kind=3 then ((inR x.mem 1 8&&x.dev==0)||(x.mem==0&&x.dev !=0)) else inR x.mem 1 8
def OpL.mayB (x:OpL) (j:Nat):Bool:=match j with
 |0=>inR x.dev x.ls 12
 |1=>inR x.old 1 12
 |2=>x.mb
 |3=>inR x.role 1 3
 |5=>x.epoch.named
 |6=>inR x.n 0 2147483647
 |9=>x.of.named
 |11=>inR x.need x.nd x.mo
 |12=>inR x.wait 0 2147483647
 |14=>Ay x.pub
 |_=>true
def OpL.itemsL (x:OpL):Bool:=x.guards.all (fun n=>inR n 1 12)&&(x.refs.all fOk&&(x.past.all Id.named&&(x.path.all (fun y=>Ay y.p&&y.xs.all Bx.may)&&(x.boxes.all Bx.may&&x.hist.all (fun y=>y.f.named)))))
def OpL.loopB (x:OpL) (has:Nat):Bool:=(List.range 16).all (fun j=> !has.testBit j||x.mayB j)
def OpL.rngB (x:OpL) (has:Nat):Bool:=inR x.by_ 1 12&&(inR x.sq 1 2147483647&&(inR x.at_ 0 2147483647&&(x.loopB has&&x.itemsL)))
def RA (x:OpL) (has:Nat) (left:Lit→Bool):Prop:=∀j,j<16→left (.int .i64 ((2^j:Nat):Int))=false→has.testBit j=true→x.mayB j=true
def mayIns:List (Nat × Int × Nat):=[(5,(1:Int),62),(9,(2:Int),65),(11,(4:Int),66),(15,(8:Int),69),(19,(64:Int),72),(23,(4096:Int),75),(29,(2048:Int),80),(33,(32:Int),83),(37,(512:Int),86),(41,(16384:Int),89)]
def Qk (x:OpL) (t:Nat):Bool:=match t with
 |62=>x.mayB 0
 |65=>x.mayB 1
 |66=>x.mayB 2
 |69=>x.mayB 3
 |72=>x.mayB 6
 |75=>x.mayB 12
 |80=>x.mayB 11
 |83=>x.mayB 5
 |86=>x.mayB 9
 |89=>x.mayB 14
 |_=>false
def mayCv (x:OpL) (t:Nat):Bool:=match t with
 |4=>x.mayB 0
 |8=>x.mayB 1
 |14=>x.mayB 3
 |18=>x.mayB 6
 |22=>x.mayB 12
 |28=>x.mayB 11
 |32=>x.mayB 5
 |36=>x.mayB 9
 |40=>x.mayB 14
 |_=>false
theorem Y3 (x:OpL):∀y∈mayIns,∃j,j<16∧y.2.1=((2^j:Nat):Int)∧Qk x y.2.2=x.mayB j:=by
 unfold mayIns
 refine List.forall_mem_cons.2 ⟨⟨0,by decide,rfl,rfl⟩,?_⟩
 refine List.forall_mem_cons.2 ⟨⟨1,by decide,rfl,rfl⟩,?_⟩
 refine List.forall_mem_cons.2 ⟨⟨2,by decide,rfl,rfl⟩,?_⟩
 refine List.forall_mem_cons.2 ⟨⟨3,by decide,rfl,rfl⟩,?_⟩
 refine List.forall_mem_cons.2 ⟨⟨6,by decide,rfl,rfl⟩,?_⟩
 refine List.forall_mem_cons.2 ⟨⟨12,by decide,rfl,rfl⟩,?_⟩
 refine List.forall_mem_cons.2 ⟨⟨11,by decide,rfl,rfl⟩,?_⟩
 refine List.forall_mem_cons.2 ⟨⟨5,by decide,rfl,rfl⟩,?_⟩
 refine List.forall_mem_cons.2 ⟨⟨9,by decide,rfl,rfl⟩,?_⟩
 refine List.forall_mem_cons.2 ⟨⟨14,by decide,rfl,rfl⟩,?_⟩
 exact fun y hy=>absurd hy (by simp)
theorem Y5:∀j,j<16→(mayIns.find? (fun y=>y.2.1==((2^j:Nat):Int))).isSome=false→j=4∨j=7∨j=8∨j=10∨j=13∨j=15:=by decide
theorem RA.start {x:OpL} {has:Nat} {left:Lit→Bool} (h:∀j,j<16→left (.int .i64 ((2^j:Nat):Int))=(mayIns.find? (fun y=>y.2.1==((2^j:Nat):Int))).isSome):RA x has left:=by
 intro j hj hl _
 rw [h j hj] at hl
 rcases Y5 j hj hl with rfl|rfl|rfl|rfl|rfl|rfl<;>rfl
theorem RA.step {x:OpL} {has j:Nat} {left:Lit→Bool} (h:RA x has left) (hj:j<16) (hb:has.testBit j=true→x.mayB j=true):RA x has (fun z=>left z&& !z.sameKey (.int .i64 ((2^j:Nat):Int))):=by
 intro i hi hl hbi
 by_cases hij:i=j
 ·
  subst hij
  exact hb hbi
 ·
  replace hl:(left (.int .i64 ((2^i:Nat):Int))&& !(Lit.int .i64 ((2^i:Nat):Int)).sameKey (.int .i64 ((2^j:Nat):Int)))=false:=hl
  rw [Qf hij] at hl
  exact h i hi (by simpa using hl) hbi
theorem RA.done {x:OpL} {has:Nat} {left:Lit→Bool} (h:RA x has left) (hl:∀kl,left kl=false):x.loopB has=true:=by
 unfold OpL.loopB
 rw [List.all_eq_true]
 intro j hj
 have hj':j<16:=by simpa using hj
 cases hb:has.testBit j with
 |false=>rfl
 |true=>rw [h j hj' (hl _) hb];rfl
theorem Y6 {x:OpL} {has j:Nat} (hj:j<16) (hb:has.testBit j=true) (hm:x.mayB j=false):x.loopB has=false:=by
 unfold OpL.loopB
 rw [List.all_eq_false]
 exact ⟨j,by simpa using hj,by rw [hb,hm];decide⟩
theorem Y7 (x:OpL) (has:Nat) (hhas:has<65536) (w:World) (hat:x.at w w.heap.size) (hok:x.op.ok):Calls Tryz.prog 116 #[.agg x.cells,.int .i64 (has:Int)] w (Af (x.rngB has) w):=by
 have hb0:=Blk.new w 44 x.cells
 have f0:Fr Non w (w.alloc (.cells x.cells 44)):=(Fr.refl Non w).alloc _
 have c0:(w.alloc (.cells x.cells 44)).cell? ⟨w.heap.size,0,none⟩=some (.int .i64 x.by_):=hb0.cell 0
 have c1:(w.alloc (.cells x.cells 44)).cell? ⟨w.heap.size,1,none⟩=some (.int .i64 x.sq):=hb0.cell 1
 have c2:(w.alloc (.cells x.cells 44)).cell? ⟨w.heap.size,2,none⟩=some (.int .i64 x.kind):=hb0.cell 2
 have c3:(w.alloc (.cells x.cells 44)).cell? ⟨w.heap.size,3,none⟩=some (.int .i64 x.at_):=hb0.cell 3
 have c4:(w.alloc (.cells x.cells 44)).cell? ⟨w.heap.size,4,none⟩=some (.slice x.pastA x.past.length x.pastC):=hb0.cell 4
 have c5:(w.alloc (.cells x.cells 44)).cell? ⟨w.heap.size,5,none⟩=some (.int .i64 x.dev):=hb0.cell 5
 have c6:(w.alloc (.cells x.cells 44)).cell? ⟨w.heap.size,6,none⟩=some (.int .i64 x.old):=hb0.cell 6
 have c7:(w.alloc (.cells x.cells 44)).cell? ⟨w.heap.size,7,none⟩=some (.int .i64 x.mem):=hb0.cell 7
 have c8:(w.alloc (.cells x.cells 44)).cell? ⟨w.heap.size,8,none⟩=some (.int .i64 x.role):=hb0.cell 8
 have c9:(w.alloc (.cells x.cells 44)).cell? ⟨w.heap.size,9,none⟩=some (.slice x.pathA x.path.length x.pathC):=hb0.cell 9
 have c10:(w.alloc (.cells x.cells 44)).cell? ⟨w.heap.size,10,none⟩=some (.int .i64 x.epoch.b):=hb0.cell 10
 have c11:(w.alloc (.cells x.cells 44)).cell? ⟨w.heap.size,11,none⟩=some (.int .i64 x.epoch.s):=hb0.cell 11
 have c12:(w.alloc (.cells x.cells 44)).cell? ⟨w.heap.size,12,none⟩=some (.int .u64 (x.epoch.u:Int)):=hb0.cell 12
 have c13:(w.alloc (.cells x.cells 44)).cell? ⟨w.heap.size,13,none⟩=some (.int .i64 x.n):=hb0.cell 13
 have c15:(w.alloc (.cells x.cells 44)).cell? ⟨w.heap.size,15,none⟩=some (.slice x.refsA x.refs.length x.refsC):=hb0.cell 15
 have c16:(w.alloc (.cells x.cells 44)).cell? ⟨w.heap.size,16,none⟩=some (.int .i64 x.of.b):=hb0.cell 16
 have c17:(w.alloc (.cells x.cells 44)).cell? ⟨w.heap.size,17,none⟩=some (.int .i64 x.of.s):=hb0.cell 17
 have c18:(w.alloc (.cells x.cells 44)).cell? ⟨w.heap.size,18,none⟩=some (.int .u64 (x.of.u:Int)):=hb0.cell 18
 have c19:(w.alloc (.cells x.cells 44)).cell? ⟨w.heap.size,19,none⟩=some (.slice x.guardsA x.guards.length x.guardsC):=hb0.cell 19
 have c20:(w.alloc (.cells x.cells 44)).cell? ⟨w.heap.size,20,none⟩=some (.int .i64 x.need):=hb0.cell 20
 have c21:(w.alloc (.cells x.cells 44)).cell? ⟨w.heap.size,21,none⟩=some (.int .i64 x.wait):=hb0.cell 21
 have c22:(w.alloc (.cells x.cells 44)).cell? ⟨w.heap.size,22,none⟩=some (.slice x.boxesA x.boxes.length x.boxesC):=hb0.cell 22
 have c23:(w.alloc (.cells x.cells 44)).cell? ⟨w.heap.size,23,none⟩=some (.int .u64 (x.pub:Int)):=hb0.cell 23
 have c24:(w.alloc (.cells x.cells 44)).cell? ⟨w.heap.size,24,none⟩=some (.slice x.histA x.hist.length x.histC):=hb0.cell 24
 have lguards:x.guards.length≤1000000:=by have h:=hok.guards.1;rw [show x.op.guards=x.guards from rfl] at h;omega
 have lrefs:x.refs.length≤1000000:=by have h:=hok.refs.1;rw [show x.op.refs=x.refs from rfl] at h;omega
 have lboxes:x.boxes.length≤1000000:=by have h:=hok.boxes.1;rw [show x.op.boxes=x.boxes from rfl] at h;omega
 have lnodes:∀y∈x.path,y.xs.length≤1000000:=fun y hy=>by have h:=(hok.path.2 y.nd (List.mem_map.2 ⟨y,hy,rfl⟩)).2.1;rw [show y.nd.xs=y.xs from rfl] at h;omega
 have lpast:x.past.length≤1000000:=by have h:=hok.past.1;rw [show x.op.past=x.past from rfl] at h;omega
 have lpath:x.path.length≤1000000:=by have h:=hok.path.1;rw [show x.op.path=x.path.map NdL.nd from rfl,Al4] at h;omega
 have lhist:x.hist.length≤1000000:=by have h:=hok.hist.1;rw [show x.op.hist=x.hist.map SlL.sl from rfl,Al4] at h;omega
 have ki1:=Lib.hid (fun w'=>C7 x.by_ 1 12 w')
 have ki2:=Lib.hid (fun w'=>C7 x.sq 1 2147483647 w')
 have ki3:=Lib.hid (fun w'=>C7 x.at_ 0 2147483647 w')
 have km:=Lib.hid (fun w'=>C7 x.mem 1 8 w')
 have kA1:=Lib.hid (fun (w':World) (h:Fr Non w w')=>Yb w.heap.size x.guards.length x.guardsC x.guardsA x.guards (fun n=>inR n 1 12) w' rfl (hat.guards.1.fr h zr) lguards (fun y _ w'' _=>Yw y w''))
 have kA2:=Lib.hid (fun (w':World) (h:Fr Non w w')=>Ye w.heap.size x.refs.length x.refsC x.refsA x.refs fOk w' rfl (hat.refs.1.fr h zr) lrefs (fun y _ w'' _=>Is y w''))
 have kA3:=Lib.hid (fun (w':World) (h:Fr Non w w')=>Yh w.heap.size x.past.length x.pastC x.pastA x.past Id.named w' rfl (hat.past.1.fr h zr) lpast (fun y _ w'' _=>It y w''))
 have kA4:=Lib.hid (fun (w':World) (h:Fr Non w w')=>Ym w.heap.size x.path.length x.pathC x.pathA x.path (fun y=>Ay y.p&&y.xs.all Bx.may) w' rfl (hat.path.1.fr h zr) lpath (fun y hy w'' h'=>Y2 w.heap.size y w'' ((hat.nodes y hy).fr (h.trans h' zr) zr) (lnodes y hy)))
 have kA5:=Lib.hid (fun (w':World) (h:Fr Non w w')=>Qi w.heap.size x.boxes.length x.boxesC x.boxesA x.boxes Bx.may w' rfl (hat.boxes.1.fr h zr) lboxes (fun y _ w'' _=>Qj y w''))
 have kA6:=Lib.hid (fun (w':World) (h:Fr Non w w')=>Ys w.heap.size x.hist.length x.histC x.histA x.hist (fun y=>y.f.named) w' rfl (hat.hist.1.fr h zr) lhist (fun y _ w'' _=>Yx y w''))
 have hfin:Hid (x.rngB has=(inR x.by_ 1 12&&(inR x.sq 1 2147483647&&(inR x.at_ 0 2147483647&&(x.loopB has&&(x.guards.all (fun n=>inR n 1 12)&&(x.refs.all fOk&&(x.past.all Id.named&&(x.path.all (fun y=>Ay y.p&&y.xs.all Bx.may)&&(x.boxes.all Bx.may&&x.hist.all (fun y=>y.f.named))))))))))):=rfl
 generalize x.rngB has=LB at*
 generalize inR x.by_ 1 12=b1 at*
 generalize inR x.sq 1 2147483647=b2 at*
 generalize inR x.at_ 0 2147483647=b3 at*
 generalize (x.guards.all (fun n=>inR n 1 12))=g1 at*
 generalize (x.refs.all fOk)=g2 at*
 generalize (x.past.all Id.named)=g3 at*
 generalize (x.path.all (fun y=>Ay y.p&&y.xs.all Bx.may))=g4 at*
 generalize (x.boxes.all Bx.may)=g5 at*
 generalize (x.hist.all (fun y=>y.f.named))=g6 at*
 generalize x.cells=CS at*
 clear hb0 hat hok lpast lpath lhist lguards lrefs lnodes lboxes
 cases b1
 ·
  have hv:Hid (false=LB):=by show _=_;rw [hfin.out];rfl
  clear hfin
  go_enter Tryz.func116,Tryz.ntmps116
  go_wp2_with (first
  |(go_at_call 156;(with_reducible refine (ki1.out _).mono ?_);rintro _ v1 ⟨rfl,f1⟩;have fz1:=f0.trans f1 zr;clear ki1;have c1_a:=f1.cell c1 zq;have c2_a:=f1.cell c2 zq;have c3_a:=f1.cell c3 zq;have c4_a:=f1.cell c4 zq;have c5_a:=f1.cell c5 zq;have c6_a:=f1.cell c6 zq;have c7_a:=f1.cell c7 zq;have c8_a:=f1.cell c8 zq;have c9_a:=f1.cell c9 zq;have c10_a:=f1.cell c10 zq;have c11_a:=f1.cell c11 zq;have c12_a:=f1.cell c12 zq;have c13_a:=f1.cell c13 zq;have c15_a:=f1.cell c15 zq;have c16_a:=f1.cell c16 zq;have c17_a:=f1.cell c17 zq;have c18_a:=f1.cell c18 zq;have c19_a:=f1.cell c19 zq;have c20_a:=f1.cell c20 zq;have c21_a:=f1.cell c21 zq;have c22_a:=f1.cell c22 zq;have c23_a:=f1.cell c23 zq;have c24_a:=f1.cell c24 zq)
  |(go_at_call 156;(with_reducible refine (ki2.out _).mono ?_);rintro _ v2 ⟨rfl,f2⟩;have fz2:=fz1.trans f2 zr;clear ki2;have c2_b:=f2.cell c2_a zq;have c3_b:=f2.cell c3_a zq;have c4_b:=f2.cell c4_a zq;have c5_b:=f2.cell c5_a zq;have c6_b:=f2.cell c6_a zq;have c7_b:=f2.cell c7_a zq;have c8_b:=f2.cell c8_a zq;have c9_b:=f2.cell c9_a zq;have c10_b:=f2.cell c10_a zq;have c11_b:=f2.cell c11_a zq;have c12_b:=f2.cell c12_a zq;have c13_b:=f2.cell c13_a zq;have c15_b:=f2.cell c15_a zq;have c16_b:=f2.cell c16_a zq;have c17_b:=f2.cell c17_a zq;have c18_b:=f2.cell c18_a zq;have c19_b:=f2.cell c19_a zq;have c20_b:=f2.cell c20_a zq;have c21_b:=f2.cell c21_a zq;have c22_b:=f2.cell c22_a zq;have c23_b:=f2.cell c23_a zq;have c24_b:=f2.cell c24_a zq)
  |(go_at_call 156;(with_reducible refine (ki3.out _).mono ?_);rintro _ v3 ⟨rfl,f3⟩;have fz3:=fz2.trans f3 zr;clear ki3;have c2_c:=f3.cell c2_b zq;have c4_c:=f3.cell c4_b zq;have c5_c:=f3.cell c5_b zq;have c6_c:=f3.cell c6_b zq;have c7_c:=f3.cell c7_b zq;have c8_c:=f3.cell c8_b zq;have c9_c:=f3.cell c9_b zq;have c10_c:=f3.cell c10_b zq;have c11_c:=f3.cell c11_b zq;have c12_c:=f3.cell c12_b zq;have c13_c:=f3.cell c13_b zq;have c15_c:=f3.cell c15_b zq;have c16_c:=f3.cell c16_b zq;have c17_c:=f3.cell c17_b zq;have c18_c:=f3.cell c18_b zq;have c19_c:=f3.cell c19_b zq;have c20_c:=f3.cell c20_b zq;have c21_c:=f3.cell c21_b zq;have c22_c:=f3.cell c22_b zq;have c23_c:=f3.cell c23_b zq;have c24_c:=f3.cell c24_b zq))
  go_ret
  exact ⟨congrArg (fun z=>Ending.returned (.bool z)) hv.out,fz1⟩
 cases b2
 ·
  have hv:Hid (false=LB):=by show _=_;rw [hfin.out];rfl
  clear hfin
  go_enter Tryz.func116,Tryz.ntmps116
  go_wp2_with (first
  |(go_at_call 156;(with_reducible refine (ki1.out _).mono ?_);rintro _ v1 ⟨rfl,f1⟩;have fz1:=f0.trans f1 zr;clear ki1;have c1_a:=f1.cell c1 zq;have c2_a:=f1.cell c2 zq;have c3_a:=f1.cell c3 zq;have c4_a:=f1.cell c4 zq;have c5_a:=f1.cell c5 zq;have c6_a:=f1.cell c6 zq;have c7_a:=f1.cell c7 zq;have c8_a:=f1.cell c8 zq;have c9_a:=f1.cell c9 zq;have c10_a:=f1.cell c10 zq;have c11_a:=f1.cell c11 zq;have c12_a:=f1.cell c12 zq;have c13_a:=f1.cell c13 zq;have c15_a:=f1.cell c15 zq;have c16_a:=f1.cell c16 zq;have c17_a:=f1.cell c17 zq;have c18_a:=f1.cell c18 zq;have c19_a:=f1.cell c19 zq;have c20_a:=f1.cell c20 zq;have c21_a:=f1.cell c21 zq;have c22_a:=f1.cell c22 zq;have c23_a:=f1.cell c23 zq;have c24_a:=f1.cell c24 zq)
  |(go_at_call 156;(with_reducible refine (ki2.out _).mono ?_);rintro _ v2 ⟨rfl,f2⟩;have fz2:=fz1.trans f2 zr;clear ki2;have c2_b:=f2.cell c2_a zq;have c3_b:=f2.cell c3_a zq;have c4_b:=f2.cell c4_a zq;have c5_b:=f2.cell c5_a zq;have c6_b:=f2.cell c6_a zq;have c7_b:=f2.cell c7_a zq;have c8_b:=f2.cell c8_a zq;have c9_b:=f2.cell c9_a zq;have c10_b:=f2.cell c10_a zq;have c11_b:=f2.cell c11_a zq;have c12_b:=f2.cell c12_a zq;have c13_b:=f2.cell c13_a zq;have c15_b:=f2.cell c15_a zq;have c16_b:=f2.cell c16_a zq;have c17_b:=f2.cell c17_a zq;have c18_b:=f2.cell c18_a zq;have c19_b:=f2.cell c19_a zq;have c20_b:=f2.cell c20_a zq;have c21_b:=f2.cell c21_a zq;have c22_b:=f2.cell c22_a zq;have c23_b:=f2.cell c23_a zq;have c24_b:=f2.cell c24_a zq)
  |(go_at_call 156;(with_reducible refine (ki3.out _).mono ?_);rintro _ v3 ⟨rfl,f3⟩;have fz3:=fz2.trans f3 zr;clear ki3;have c2_c:=f3.cell c2_b zq;have c4_c:=f3.cell c4_b zq;have c5_c:=f3.cell c5_b zq;have c6_c:=f3.cell c6_b zq;have c7_c:=f3.cell c7_b zq;have c8_c:=f3.cell c8_b zq;have c9_c:=f3.cell c9_b zq;have c10_c:=f3.cell c10_b zq;have c11_c:=f3.cell c11_b zq;have c12_c:=f3.cell c12_b zq;have c13_c:=f3.cell c13_b zq;have c15_c:=f3.cell c15_b zq;have c16_c:=f3.cell c16_b zq;have c17_c:=f3.cell c17_b zq;have c18_c:=f3.cell c18_b zq;have c19_c:=f3.cell c19_b zq;have c20_c:=f3.cell c20_b zq;have c21_c:=f3.cell c21_b zq;have c22_c:=f3.cell c22_b zq;have c23_c:=f3.cell c23_b zq;have c24_c:=f3.cell c24_b zq))
  go_ret
  exact ⟨congrArg (fun z=>Ending.returned (.bool z)) hv.out,fz2⟩
 cases b3
 ·
  have hv:Hid (false=LB):=by show _=_;rw [hfin.out];rfl
  clear hfin
  go_enter Tryz.func116,Tryz.ntmps116
  go_wp2_with (first
  |(go_at_call 156;(with_reducible refine (ki1.out _).mono ?_);rintro _ v1 ⟨rfl,f1⟩;have fz1:=f0.trans f1 zr;clear ki1;have c1_a:=f1.cell c1 zq;have c2_a:=f1.cell c2 zq;have c3_a:=f1.cell c3 zq;have c4_a:=f1.cell c4 zq;have c5_a:=f1.cell c5 zq;have c6_a:=f1.cell c6 zq;have c7_a:=f1.cell c7 zq;have c8_a:=f1.cell c8 zq;have c9_a:=f1.cell c9 zq;have c10_a:=f1.cell c10 zq;have c11_a:=f1.cell c11 zq;have c12_a:=f1.cell c12 zq;have c13_a:=f1.cell c13 zq;have c15_a:=f1.cell c15 zq;have c16_a:=f1.cell c16 zq;have c17_a:=f1.cell c17 zq;have c18_a:=f1.cell c18 zq;have c19_a:=f1.cell c19 zq;have c20_a:=f1.cell c20 zq;have c21_a:=f1.cell c21 zq;have c22_a:=f1.cell c22 zq;have c23_a:=f1.cell c23 zq;have c24_a:=f1.cell c24 zq)
  |(go_at_call 156;(with_reducible refine (ki2.out _).mono ?_);rintro _ v2 ⟨rfl,f2⟩;have fz2:=fz1.trans f2 zr;clear ki2;have c2_b:=f2.cell c2_a zq;have c3_b:=f2.cell c3_a zq;have c4_b:=f2.cell c4_a zq;have c5_b:=f2.cell c5_a zq;have c6_b:=f2.cell c6_a zq;have c7_b:=f2.cell c7_a zq;have c8_b:=f2.cell c8_a zq;have c9_b:=f2.cell c9_a zq;have c10_b:=f2.cell c10_a zq;have c11_b:=f2.cell c11_a zq;have c12_b:=f2.cell c12_a zq;have c13_b:=f2.cell c13_a zq;have c15_b:=f2.cell c15_a zq;have c16_b:=f2.cell c16_a zq;have c17_b:=f2.cell c17_a zq;have c18_b:=f2.cell c18_a zq;have c19_b:=f2.cell c19_a zq;have c20_b:=f2.cell c20_a zq;have c21_b:=f2.cell c21_a zq;have c22_b:=f2.cell c22_a zq;have c23_b:=f2.cell c23_a zq;have c24_b:=f2.cell c24_a zq)
  |(go_at_call 156;(with_reducible refine (ki3.out _).mono ?_);rintro _ v3 ⟨rfl,f3⟩;have fz3:=fz2.trans f3 zr;clear ki3;have c2_c:=f3.cell c2_b zq;have c4_c:=f3.cell c4_b zq;have c5_c:=f3.cell c5_b zq;have c6_c:=f3.cell c6_b zq;have c7_c:=f3.cell c7_b zq;have c8_c:=f3.cell c8_b zq;have c9_c:=f3.cell c9_b zq;have c10_c:=f3.cell c10_b zq;have c11_c:=f3.cell c11_b zq;have c12_c:=f3.cell c12_b zq;have c13_c:=f3.cell c13_b zq;have c15_c:=f3.cell c15_b zq;have c16_c:=f3.cell c16_b zq;have c17_c:=f3.cell c17_b zq;have c18_c:=f3.cell c18_b zq;have c19_c:=f3.cell c19_b zq;have c20_c:=f3.cell c20_b zq;have c21_c:=f3.cell c21_b zq;have c22_c:=f3.cell c22_b zq;have c23_c:=f3.cell c23_b zq;have c24_c:=f3.cell c24_b zq))
  go_ret
  exact ⟨congrArg (fun z=>Ending.returned (.bool z)) hv.out,fz3⟩
 replace hfin:Hid (LB=(x.loopB has&&(g1&&(g2&&(g3&&(g4&&(g5&&g6))))))):=hfin
 go_enter Tryz.func116,Tryz.ntmps116
 go_wp2_with (first
  |(go_at_call 156;(with_reducible refine (ki1.out _).mono ?_);rintro _ v1 ⟨rfl,f1⟩;have fz1:=f0.trans f1 zr;clear ki1;have c1_a:=f1.cell c1 zq;have c2_a:=f1.cell c2 zq;have c3_a:=f1.cell c3 zq;have c4_a:=f1.cell c4 zq;have c5_a:=f1.cell c5 zq;have c6_a:=f1.cell c6 zq;have c7_a:=f1.cell c7 zq;have c8_a:=f1.cell c8 zq;have c9_a:=f1.cell c9 zq;have c10_a:=f1.cell c10 zq;have c11_a:=f1.cell c11 zq;have c12_a:=f1.cell c12 zq;have c13_a:=f1.cell c13 zq;have c15_a:=f1.cell c15 zq;have c16_a:=f1.cell c16 zq;have c17_a:=f1.cell c17 zq;have c18_a:=f1.cell c18 zq;have c19_a:=f1.cell c19 zq;have c20_a:=f1.cell c20 zq;have c21_a:=f1.cell c21 zq;have c22_a:=f1.cell c22 zq;have c23_a:=f1.cell c23 zq;have c24_a:=f1.cell c24 zq)
  |(go_at_call 156;(with_reducible refine (ki2.out _).mono ?_);rintro _ v2 ⟨rfl,f2⟩;have fz2:=fz1.trans f2 zr;clear ki2;have c2_b:=f2.cell c2_a zq;have c3_b:=f2.cell c3_a zq;have c4_b:=f2.cell c4_a zq;have c5_b:=f2.cell c5_a zq;have c6_b:=f2.cell c6_a zq;have c7_b:=f2.cell c7_a zq;have c8_b:=f2.cell c8_a zq;have c9_b:=f2.cell c9_a zq;have c10_b:=f2.cell c10_a zq;have c11_b:=f2.cell c11_a zq;have c12_b:=f2.cell c12_a zq;have c13_b:=f2.cell c13_a zq;have c15_b:=f2.cell c15_a zq;have c16_b:=f2.cell c16_a zq;have c17_b:=f2.cell c17_a zq;have c18_b:=f2.cell c18_a zq;have c19_b:=f2.cell c19_a zq;have c20_b:=f2.cell c20_a zq;have c21_b:=f2.cell c21_a zq;have c22_b:=f2.cell c22_a zq;have c23_b:=f2.cell c23_a zq;have c24_b:=f2.cell c24_a zq)
  |(go_at_call 156;(with_reducible refine (ki3.out _).mono ?_);rintro _ v3 ⟨rfl,f3⟩;have fz3:=fz2.trans f3 zr;clear ki3;have c2_c:=f3.cell c2_b zq;have c4_c:=f3.cell c4_b zq;have c5_c:=f3.cell c5_b zq;have c6_c:=f3.cell c6_b zq;have c7_c:=f3.cell c7_b zq;have c8_c:=f3.cell c8_b zq;have c9_c:=f3.cell c9_b zq;have c10_c:=f3.cell c10_b zq;have c11_c:=f3.cell c11_b zq;have c12_c:=f3.cell c12_b zq;have c13_c:=f3.cell c13_b zq;have c15_c:=f3.cell c15_b zq;have c16_c:=f3.cell c16_b zq;have c17_c:=f3.cell c17_b zq;have c18_c:=f3.cell c18_b zq;have c19_c:=f3.cell c19_b zq;have c20_c:=f3.cell c20_b zq;have c21_c:=f3.cell c21_b zq;have c22_c:=f3.cell c22_b zq;have c23_c:=f3.cell c23_b zq;have c24_c:=f3.cell c24_b zq))
 go_quiet (fail)
 have fz4:Fr Non w (v3.drewN nq):=fz3.drewN nq
 have c2_d:(v3.drewN nq).cell? ⟨w.heap.size,2,none⟩=some (.int .i64 x.kind):=c2_c
 have c4_d:(v3.drewN nq).cell? ⟨w.heap.size,4,none⟩=some (.slice x.pastA x.past.length x.pastC):=c4_c
 have c5_d:(v3.drewN nq).cell? ⟨w.heap.size,5,none⟩=some (.int .i64 x.dev):=c5_c
 have c6_d:(v3.drewN nq).cell? ⟨w.heap.size,6,none⟩=some (.int .i64 x.old):=c6_c
 have c7_d:(v3.drewN nq).cell? ⟨w.heap.size,7,none⟩=some (.int .i64 x.mem):=c7_c
 have c8_d:(v3.drewN nq).cell? ⟨w.heap.size,8,none⟩=some (.int .i64 x.role):=c8_c
 have c9_d:(v3.drewN nq).cell? ⟨w.heap.size,9,none⟩=some (.slice x.pathA x.path.length x.pathC):=c9_c
 have c10_d:(v3.drewN nq).cell? ⟨w.heap.size,10,none⟩=some (.int .i64 x.epoch.b):=c10_c
 have c11_d:(v3.drewN nq).cell? ⟨w.heap.size,11,none⟩=some (.int .i64 x.epoch.s):=c11_c
 have c12_d:(v3.drewN nq).cell? ⟨w.heap.size,12,none⟩=some (.int .u64 (x.epoch.u:Int)):=c12_c
 have c13_d:(v3.drewN nq).cell? ⟨w.heap.size,13,none⟩=some (.int .i64 x.n):=c13_c
 have c15_d:(v3.drewN nq).cell? ⟨w.heap.size,15,none⟩=some (.slice x.refsA x.refs.length x.refsC):=c15_c
 have c16_d:(v3.drewN nq).cell? ⟨w.heap.size,16,none⟩=some (.int .i64 x.of.b):=c16_c
 have c17_d:(v3.drewN nq).cell? ⟨w.heap.size,17,none⟩=some (.int .i64 x.of.s):=c17_c
 have c18_d:(v3.drewN nq).cell? ⟨w.heap.size,18,none⟩=some (.int .u64 (x.of.u:Int)):=c18_c
 have c19_d:(v3.drewN nq).cell? ⟨w.heap.size,19,none⟩=some (.slice x.guardsA x.guards.length x.guardsC):=c19_c
 have c20_d:(v3.drewN nq).cell? ⟨w.heap.size,20,none⟩=some (.int .i64 x.need):=c20_c
 have c21_d:(v3.drewN nq).cell? ⟨w.heap.size,21,none⟩=some (.int .i64 x.wait):=c21_c
 have c22_d:(v3.drewN nq).cell? ⟨w.heap.size,22,none⟩=some (.slice x.boxesA x.boxes.length x.boxesC):=c22_c
 have c23_d:(v3.drewN nq).cell? ⟨w.heap.size,23,none⟩=some (.int .u64 (x.pub:Int)):=c23_c
 have c24_d:(v3.drewN nq).cell? ⟨w.heap.size,24,none⟩=some (.slice x.histA x.hist.length x.histC):=c24_c
 generalize v3.drewN nq=v4 at*
 clear c2_c c4_c c5_c c6_c c7_c c8_c c9_c c10_c c11_c c12_c c13_c c15_c c16_c c17_c c18_c c19_c c20_c c21_c c22_c c23_c c24_c c2_b c3_b c4_b c5_b c6_b c7_b c8_b c9_b c10_b c11_b c12_b c13_b c15_b c16_b c17_b c18_b c19_b c20_b c21_b c22_b c23_b c24_b c1_a c2_a c3_a c4_a c5_a c6_a c7_a c8_a c9_a c10_a c11_a c12_a c13_a c15_a c16_a c17_a c18_a c19_a c20_a c21_a c22_a c23_a c24_a c0 c1 c2 c3 c4 c5 c6 c7 c8 c9 c10 c11 c12 c13 c15 c16 c17 c18 c19 c20 c21 c22 c23 c24
 go_upto_if 38 with (go_at_call 156;(with_reducible refine (km.out _).mono ?_);rintro _ v5 ⟨rfl,f5⟩;have fz5:=fz4.trans f5 zr;clear km;have c2:=f5.cell c2_d zq;have c4:=f5.cell c4_d zq;have c5:=f5.cell c5_d zq;have c6:=f5.cell c6_d zq;have c7:=f5.cell c7_d zq;have c8:=f5.cell c8_d zq;have c9:=f5.cell c9_d zq;have c10:=f5.cell c10_d zq;have c11:=f5.cell c11_d zq;have c12:=f5.cell c12_d zq;have c13:=f5.cell c13_d zq;have c15:=f5.cell c15_d zq;have c16:=f5.cell c16_d zq;have c17:=f5.cell c17_d zq;have c18:=f5.cell c18_d zq;have c19:=f5.cell c19_d zq;have c20:=f5.cell c20_d zq;have c21:=f5.cell c21_d zq;have c22:=f5.cell c22_d zq;have c23:=f5.cell c23_d zq;have c24:=f5.cell c24_d zq)
 clear c2_d c4_d c5_d c6_d c7_d c8_d c9_d c10_d c11_d c12_d c13_d c15_d c16_d c17_d c18_d c19_d c20_d c21_d c22_d c23_d c24_d fz4 f5
 generalize hv5:v5=W at*
 go_cut [5,8] from 14 (fun a b wc=>W=wc∧a=.int .i64 x.ls∧b=.bool x.mb)
 case first=>
  by_cases k3:x.kind=3
  ·
   have h1:Hid (x.ls=0):=if_pos k3
   have hmb:Hid (x.mb=((inR x.mem 1 8&&x.dev==0)||(x.mem==0&&x.dev !=0))):=if_pos k3
   have k3t:=Cw k3
   clear k3
   generalize inR x.mem 1 8=m1 at*
   rcases zb (x.dev==0) with d0|d0<;>rcases zb (x.mem==0) with e0|e0<;>cases m1
   all_goals
    have d0':(x.dev !=0)=!(x.dev==0):=rfl
    rw [d0] at d0'
    have h2:=hmb.out
    rw [d0,e0,d0'] at h2
    replace h2:=Lib.hid h2
    clear hmb
    go_wp2_with (fail)
    go_meet
    exact ⟨rfl,congrArg (Value.int .i64) h1.out.symm,congrArg Value.bool h2.out.symm⟩
  ·
   have h1:Hid (x.ls=1):=if_neg k3
   have h2:Hid (x.mb=inR x.mem 1 8):=if_neg k3
   have k3t:=Cu k3
   clear k3
   go_wp2_with (fail)
   go_meet
   exact ⟨rfl,congrArg (Value.int .i64) h1.out.symm,congrArg Value.bool h2.out.symm⟩
 case rest=>
 obtain ⟨rfl,rfl,rfl⟩:=hcut
 go_upto_if 57 with (fail)
 go_cut [6,7] from 14 (fun a b wc=>W=wc∧a=.int .i64 x.nd∧b=.int .i64 x.mo)
 case first=>
  by_cases k3:x.kind=1
  ·
   have h1:Hid (x.nd=0):=if_pos k3
   have h2:Hid (x.mo=20):=if_pos k3
   have k3t:=Cw k3
   clear k3
   go_wp2_with (fail)
   go_meet
   exact ⟨rfl,congrArg (Value.int .i64) h1.out.symm,congrArg (Value.int .i64) h2.out.symm⟩
  ·
   have h1:Hid (x.nd=1):=if_neg k3
   have h2:Hid (x.mo=(x.guards.length:Int)):=if_neg k3
   have k3t:=Cu k3
   clear k3
   go_wp2_with (fail)
   go_meet
   exact ⟨rfl,congrArg (Value.int .i64) h1.out.symm,congrArg (Value.int .i64) h2.out.symm⟩
 case rest=>
 obtain ⟨rfl,rfl,rfl⟩:=hcut
 go_upto_region 10 with (fail)
 have hS:(fun w'=>w'.cell? ⟨w.heap.size,5,none⟩=some (.int .i64 x.dev)∧w'.cell? ⟨w.heap.size,6,none⟩=some (.int .i64 x.old)∧w'.cell? ⟨w.heap.size,8,none⟩=some (.int .i64 x.role)∧w'.cell? ⟨w.heap.size,10,none⟩=some (.int .i64 x.epoch.b)∧w'.cell? ⟨w.heap.size,11,none⟩=some (.int .i64 x.epoch.s)∧w'.cell? ⟨w.heap.size,12,none⟩=some (.int .u64 (x.epoch.u:Int))∧w'.cell? ⟨w.heap.size,13,none⟩=some (.int .i64 x.n)∧w'.cell? ⟨w.heap.size,16,none⟩=some (.int .i64 x.of.b)∧w'.cell? ⟨w.heap.size,17,none⟩=some (.int .i64 x.of.s)∧w'.cell? ⟨w.heap.size,18,none⟩=some (.int .u64 (x.of.u:Int))∧w'.cell? ⟨w.heap.size,20,none⟩=some (.int .i64 x.need)∧w'.cell? ⟨w.heap.size,21,none⟩=some (.int .i64 x.wait)∧w'.cell? ⟨w.heap.size,23,none⟩=some (.int .u64 (x.pub:Int))) W.drew:=by
  and_intros
  · exact c5
  · exact c6
  · exact c8
  · exact c10
  · exact c11
  · exact c12
  · exact c13
  · exact c16
  · exact c17
  · exact c18
  · exact c20
  · exact c21
  · exact c23
 refine wp_region_held_drew (S:=fun w'=>w'.cell? ⟨w.heap.size,5,none⟩=some (.int .i64 x.dev)∧w'.cell? ⟨w.heap.size,6,none⟩=some (.int .i64 x.old)∧w'.cell? ⟨w.heap.size,8,none⟩=some (.int .i64 x.role)∧w'.cell? ⟨w.heap.size,10,none⟩=some (.int .i64 x.epoch.b)∧w'.cell? ⟨w.heap.size,11,none⟩=some (.int .i64 x.epoch.s)∧w'.cell? ⟨w.heap.size,12,none⟩=some (.int .u64 (x.epoch.u:Int))∧w'.cell? ⟨w.heap.size,13,none⟩=some (.int .i64 x.n)∧w'.cell? ⟨w.heap.size,16,none⟩=some (.int .i64 x.of.b)∧w'.cell? ⟨w.heap.size,17,none⟩=some (.int .i64 x.of.s)∧w'.cell? ⟨w.heap.size,18,none⟩=some (.int .u64 (x.of.u:Int))∧w'.cell? ⟨w.heap.size,20,none⟩=some (.int .i64 x.need)∧w'.cell? ⟨w.heap.size,21,none⟩=some (.int .i64 x.wait)∧w'.cell? ⟨w.heap.size,23,none⟩=some (.int .u64 (x.pub:Int))) (by kernel_rfl) hS (fun hHeld=> ?_)
 clear hHeld
 try simp only [List.append_eq,List.cons_append,List.nil_append]
 replace c4:W.drew.cell? ⟨w.heap.size,4,none⟩=some (.slice x.pastA x.past.length x.pastC):=c4
 replace c9:W.drew.cell? ⟨w.heap.size,9,none⟩=some (.slice x.pathA x.path.length x.pathC):=c9
 replace c15:W.drew.cell? ⟨w.heap.size,15,none⟩=some (.slice x.refsA x.refs.length x.refsC):=c15
 replace c19:W.drew.cell? ⟨w.heap.size,19,none⟩=some (.slice x.guardsA x.guards.length x.guardsC):=c19
 replace c22:W.drew.cell? ⟨w.heap.size,22,none⟩=some (.slice x.boxesA x.boxes.length x.boxesC):=c22
 replace c24:W.drew.cell? ⟨w.heap.size,24,none⟩=some (.slice x.histA x.hist.length x.histC):=c24
 replace fz5:=fz5.drew
 clear c2 c7 c5 c6 c8 c10 c11 c12 c13 c16 c17 c18 c20 c21 c23
 generalize W.drew=w0 at*
 refine tkH 1 hS (h:=tkH 2 hS (h:=tkH 3 hS (h:=tkH 6 hS (h:=tkH 7 hS (h:=tkH 10 hS (h:=tkH 12 hS (h:=tkH 13 hS (h:=tkH 16 hS (h:=tkH 17 hS (h:=tkH 20 hS (h:=tkH 21 hS (h:=?_))))))))))))
 simp only [List.set]
 refine tkH 24 hS (h:=tkH 25 hS (h:=tkH 26 hS (h:=tkH 27 hS (h:=tkH 30 hS (h:=tkH 31 hS (h:=tkH 34 hS (h:=tkH 35 hS (h:=tkH 38 hS (h:=tkH 39 hS (h:=?_))))))))))
 simp only [List.set]
 refine Qa (H:=Nat) 0 58 198 3 4 [4,8,14,18,22,28,32,36,40] mayIns (Qk x) (mayCv x) _ _ ((Array.replicate 44 true).setIfInBounds 42 false|>.setIfInBounds 43 false) w0 2 (by decide) (by kernel_rfl) (by kernel_rfl) (by kernel_rfl) Tryz.underlying198 Tryz.underlying3 Tryz.underlying4 ?_ ?_ ?_ (by decide) ?_
 ·
  clear hfin kA1 kA2 kA3 kA4 kA5 kA6
  refine List.forall_mem_cons.2 ⟨⟨62,_,_,_,_,#[.tmp 60,.tmp 61,.const (.int .i64 12)],rfl,by kernel_rfl,by kernel_rfl,fun a w' K ha hf hk=>Eu rfl Tryz.func156 (by kernel_rfl) rfl (vals:=#[.int .i64 x.dev,.int .i64 x.ls,.int .i64 12]) (ha.trans (by kernel_rfl)) ((C7 x.dev x.ls 12 w').mono ?_)⟩,?_⟩
  ·
   rintro _ w'' ⟨rfl,f⟩
   exact ⟨_,rfl,hk w'' f⟩
  refine List.forall_mem_cons.2 ⟨⟨65,_,_,_,_,#[.tmp 64,.const (.int .i64 1),.const (.int .i64 12)],rfl,by kernel_rfl,by kernel_rfl,fun a w' K ha hf hk=>Eu rfl Tryz.func156 (by kernel_rfl) rfl (vals:=#[.int .i64 x.old,.int .i64 1,.int .i64 12]) (ha.trans (by kernel_rfl)) ((C7 x.old 1 12 w').mono ?_)⟩,?_⟩
  ·
   rintro _ w'' ⟨rfl,f⟩
   exact ⟨_,rfl,hk w'' f⟩
  refine List.forall_mem_cons.2 ⟨⟨69,_,_,_,_,#[.tmp 68,.const (.int .i64 1),.const (.int .i64 3)],rfl,by kernel_rfl,by kernel_rfl,fun a w' K ha hf hk=>Eu rfl Tryz.func156 (by kernel_rfl) rfl (vals:=#[.int .i64 x.role,.int .i64 1,.int .i64 3]) (ha.trans (by kernel_rfl)) ((C7 x.role 1 3 w').mono ?_)⟩,?_⟩
  ·
   rintro _ w'' ⟨rfl,f⟩
   exact ⟨_,rfl,hk w'' f⟩
  refine List.forall_mem_cons.2 ⟨⟨72,_,_,_,_,#[.tmp 71,.const (.int .i64 0),.const (.int .i64 2147483647)],rfl,by kernel_rfl,by kernel_rfl,fun a w' K ha hf hk=>Eu rfl Tryz.func156 (by kernel_rfl) rfl (vals:=#[.int .i64 x.n,.int .i64 0,.int .i64 2147483647]) (ha.trans (by kernel_rfl)) ((C7 x.n 0 2147483647 w').mono ?_)⟩,?_⟩
  ·
   rintro _ w'' ⟨rfl,f⟩
   exact ⟨_,rfl,hk w'' f⟩
  refine List.forall_mem_cons.2 ⟨⟨75,_,_,_,_,#[.tmp 74,.const (.int .i64 0),.const (.int .i64 2147483647)],rfl,by kernel_rfl,by kernel_rfl,fun a w' K ha hf hk=>Eu rfl Tryz.func156 (by kernel_rfl) rfl (vals:=#[.int .i64 x.wait,.int .i64 0,.int .i64 2147483647]) (ha.trans (by kernel_rfl)) ((C7 x.wait 0 2147483647 w').mono ?_)⟩,?_⟩
  ·
   rintro _ w'' ⟨rfl,f⟩
   exact ⟨_,rfl,hk w'' f⟩
  refine List.forall_mem_cons.2 ⟨⟨80,_,_,_,_,#[.tmp 77,.tmp 78,.tmp 79],rfl,by kernel_rfl,by kernel_rfl,fun a w' K ha hf hk=>Eu rfl Tryz.func156 (by kernel_rfl) rfl (vals:=#[.int .i64 x.need,.int .i64 x.nd,.int .i64 x.mo]) (ha.trans (by kernel_rfl)) ((C7 x.need x.nd x.mo w').mono ?_)⟩,?_⟩
  ·
   rintro _ w'' ⟨rfl,f⟩
   exact ⟨_,rfl,hk w'' f⟩
  refine List.forall_mem_cons.2 ⟨⟨83,_,_,_,_,#[.tmp 82],rfl,by kernel_rfl,by kernel_rfl,fun a w' K ha hf hk=>Eu rfl Tryz.func157 (by kernel_rfl) rfl (vals:=#[.agg x.epoch.V]) (ha.trans (by kernel_rfl)) ((It x.epoch w').mono ?_)⟩,?_⟩
  ·
   rintro _ w'' ⟨rfl,f⟩
   exact ⟨_,rfl,hk w'' f⟩
  refine List.forall_mem_cons.2 ⟨⟨86,_,_,_,_,#[.tmp 85],rfl,by kernel_rfl,by kernel_rfl,fun a w' K ha hf hk=>Eu rfl Tryz.func157 (by kernel_rfl) rfl (vals:=#[.agg x.of.V]) (ha.trans (by kernel_rfl)) ((It x.of w').mono ?_)⟩,?_⟩
  ·
   rintro _ w'' ⟨rfl,f⟩
   exact ⟨_,rfl,hk w'' f⟩
  refine List.forall_mem_cons.2 ⟨⟨89,_,_,_,_,#[.tmp 88],rfl,by kernel_rfl,by kernel_rfl,fun a w' K ha hf hk=>Eu rfl Tryz.func158 (by kernel_rfl) rfl (vals:=#[.int .u64 (x.pub:Int)]) (ha.trans (by kernel_rfl)) ((Iq x.pub w').mono ?_)⟩,?_⟩
  ·
   rintro _ w'' ⟨rfl,f⟩
   exact ⟨_,rfl,hk w'' f⟩
  exact fun y hy=>absurd hy (by simp)
 ·
  clear hfin kA1 kA2 kA3 kA4 kA5 kA6
  unfold mayIns
  refine List.forall_mem_cons.2 ⟨Or.inr ⟨4,by kernel_rfl,rfl⟩,?_⟩
  refine List.forall_mem_cons.2 ⟨Or.inr ⟨8,by kernel_rfl,rfl⟩,?_⟩
  refine List.forall_mem_cons.2 ⟨Or.inl ⟨by kernel_rfl,rfl⟩,?_⟩
  refine List.forall_mem_cons.2 ⟨Or.inr ⟨14,by kernel_rfl,rfl⟩,?_⟩
  refine List.forall_mem_cons.2 ⟨Or.inr ⟨18,by kernel_rfl,rfl⟩,?_⟩
  refine List.forall_mem_cons.2 ⟨Or.inr ⟨22,by kernel_rfl,rfl⟩,?_⟩
  refine List.forall_mem_cons.2 ⟨Or.inr ⟨28,by kernel_rfl,rfl⟩,?_⟩
  refine List.forall_mem_cons.2 ⟨Or.inr ⟨32,by kernel_rfl,rfl⟩,?_⟩
  refine List.forall_mem_cons.2 ⟨Or.inr ⟨36,by kernel_rfl,rfl⟩,?_⟩
  refine List.forall_mem_cons.2 ⟨Or.inr ⟨40,by kernel_rfl,rfl⟩,?_⟩
  exact fun y hy=>absurd hy (by simp)
 ·
  intro w' hf
  obtain ⟨q5,q6,q8,q10,q11,q12,q13,q16,q17,q18,q20,q21,q23⟩:=hS
  and_intros<;>first|exact hf.cell q5 zq|exact hf.cell q6 zq|exact hf.cell q8 zq|exact hf.cell q10 zq|exact hf.cell q11 zq|exact hf.cell q12 zq|exact hf.cell q13 zq|exact hf.cell q16 zq|exact hf.cell q17 zq|exact hf.cell q18 zq|exact hf.cell q20 zq|exact hf.cell q21 zq|exact hf.cell q23 zq
 intro b w1 D n hF hb hown hn hsays
 rw [Qb ([none,none,none,none,none,none,none,none,none,none,none,none,none,none,none,none,none,none,none,none,none,none,none,none,none,none,none,none,none,none,none,none,none,none,none,none,none,none,none,none,none,none,none,none,none,none,none,none,none,none,none,none,none,none,none,none,none,none,some 0,none,none,none,some 4,none,none,some 8,none,none,none,some 14,none,none,some 18,none,none,some 22,none,none,none,none,some 28,none,none,some 32,none,none,some 36,none,none,some 40,none,none,none,none,none,none,none,none,none,none,none,none,none,none,none,none,none,none,none,none,none,none,none,none,none,none,none,none,none,none,none,none,none,none,none,none,none,none,none,none,none,none,none,none,none,none]) (by kernel_rfl) (by decide)]
 dsimp only [List.zipWith_cons_cons,List.zipWith_nil_left]
 simp only [if_true]
 have hSw:(fun w'=>w'.cell? ⟨w.heap.size,5,none⟩=some (.int .i64 x.dev)∧w'.cell? ⟨w.heap.size,6,none⟩=some (.int .i64 x.old)∧w'.cell? ⟨w.heap.size,8,none⟩=some (.int .i64 x.role)∧w'.cell? ⟨w.heap.size,10,none⟩=some (.int .i64 x.epoch.b)∧w'.cell? ⟨w.heap.size,11,none⟩=some (.int .i64 x.epoch.s)∧w'.cell? ⟨w.heap.size,12,none⟩=some (.int .u64 (x.epoch.u:Int))∧w'.cell? ⟨w.heap.size,13,none⟩=some (.int .i64 x.n)∧w'.cell? ⟨w.heap.size,16,none⟩=some (.int .i64 x.of.b)∧w'.cell? ⟨w.heap.size,17,none⟩=some (.int .i64 x.of.s)∧w'.cell? ⟨w.heap.size,18,none⟩=some (.int .u64 (x.of.u:Int))∧w'.cell? ⟨w.heap.size,20,none⟩=some (.int .i64 x.need)∧w'.cell? ⟨w.heap.size,21,none⟩=some (.int .i64 x.wait)∧w'.cell? ⟨w.heap.size,23,none⟩=some (.int .u64 (x.pub:Int))) w1:=by
  obtain ⟨q5,q6,q8,q10,q11,q12,q13,q16,q17,q18,q20,q21,q23⟩:=hS
  and_intros<;>first|exact hF.cell q5 zq|exact hF.cell q6 zq|exact hF.cell q8 zq|exact hF.cell q10 zq|exact hF.cell q11 zq|exact hF.cell q12 zq|exact hF.cell q13 zq|exact hF.cell q16 zq|exact hF.cell q17 zq|exact hF.cell q18 zq|exact hF.cell q20 zq|exact hF.cell q21 zq|exact hF.cell q23 zq
 refine tkH 42 hSw (h:=?_)
 simp only [List.set]
 refine M8 43 (by kernel_rfl) rfl (fun K hK=> ?_)
 refine Qc rfl rfl hown (int_keyed Tryz.underlying3) Tryz.underlying198 ?_
 intro w2 hrg hgr hsz
 have hFg:=Fr.ofGrown hgr (fun k hk=>by cases hk)
 have hFF:=hF.trans hFg zr
 have hF2:=fz5.trans hFF zr
 refine hK.out _ _ ?_ (fun _=> ?_)
 ·
  obtain ⟨q5,q6,q8,q10,q11,q12,q13,q16,q17,q18,q20,q21,q23⟩:=hSw
  and_intros<;>first|exact hFg.cell q5 zq|exact hFg.cell q6 zq|exact hFg.cell q8 zq|exact hFg.cell q10 zq|exact hFg.cell q11 zq|exact hFg.cell q12 zq|exact hFg.cell q13 zq|exact hFg.cell q16 zq|exact hFg.cell q17 zq|exact hFg.cell q18 zq|exact hFg.cell q20 zq|exact hFg.cell q21 zq|exact hFg.cell q23 zq
 clear hK K
 rw [Ac]
 simp only [List.set]
 refine oD ?_
 have hlt1:w.heap.size<w1.heap.size:=Nat.lt_of_lt_of_le (World.block_lt_of_cell? _ _ c19) hF.size
 replace c4:=hFF.cell c4 zq
 replace c9:=hFF.cell c9 zq
 replace c15:=hFF.cell c15 zq
 replace c19:=hFF.cell c19 zq
 replace c22:=hFF.cell c22 zq
 replace c24:=hFF.cell c24 zq
 have hF1s:=(fz5.trans hF zr).size
 clear hSw hS hFF hFg hF fz5
 go_simp
 go_wp2_with (fail)
 go_loopw [] (fun wr=>∃(left:Lit→Bool) (cnt:Nat),wr.ranges Tryz.prog 3 (plainElem Tryz.prog 4) b w1.heap.size n D left cnt∧Hid (RA x has left)∧Fr Non w wr∧Fr (fun k=>w1.heap.size≤k) w2 wr) (fun wr=>wr.rangeLeft b w1.heap.size)
 case atStart=>exact ⟨_,_,hrg,RA.start (fun j hj=>by rw [(hsays.2 _).1,Option.isSome_map]),hF2,Fr.refl _ _⟩
 case round=>
  obtain ⟨left,cnt,hrg,hRA,hF,hFr⟩:=hrel
  clear hF2
  go_wp2_with (first
   |(at_next;refine Qd _ rfl _ rfl 3 4 Tryz.underlying3 Tryz.underlying4 b w1.heap.size n D left cnt rfl hrg ?_ ?_)
   |go_in)
  ·
   intro hc0 hl0
   have hd:=RA.done hRA hl0
   replace hfin:Hid (LB=(g1&&(g2&&(g3&&(g4&&(g5&&g6)))))):=by show _=_;rw [hfin.out,hd];rfl
   subst hc0
   clear hrg hd hl0 hRA hsays
   replace c4:=hFr.cell c4 (by show ¬w1.heap.size≤w.heap.size;omega)
   replace c9:=hFr.cell c9 (by show ¬w1.heap.size≤w.heap.size;omega)
   replace c15:=hFr.cell c15 (by show ¬w1.heap.size≤w.heap.size;omega)
   replace c19:=hFr.cell c19 (by show ¬w1.heap.size≤w.heap.size;omega)
   replace c22:=hFr.cell c22 (by show ¬w1.heap.size≤w.heap.size;omega)
   replace c24:=hFr.cell c24 (by show ¬w1.heap.size≤w.heap.size;omega)
   cases g1
   ·
    have hv:Hid (false=LB):=hfin.out.symm
    clear hfin
    go_wp2_with (first|(go_at_call 164;(with_reducible refine (kA1.out _ hF).mono ?_);rintro _ v0 ⟨rfl,e0⟩;have hF:=hF.trans e0 zr;have c15:=e0.cell c15 zq;have c4:=e0.cell c4 zq;have c9:=e0.cell c9 zq;have c22:=e0.cell c22 zq;have c24:=e0.cell c24 zq)|(go_at_call 165;(with_reducible refine (kA2.out _ hF).mono ?_);rintro _ v1 ⟨rfl,e1⟩;have hF:=hF.trans e1 zr;have c4:=e1.cell c4 zq;have c9:=e1.cell c9 zq;have c22:=e1.cell c22 zq;have c24:=e1.cell c24 zq)|(go_at_call 167;(with_reducible refine (kA3.out _ hF).mono ?_);rintro _ v2 ⟨rfl,e2⟩;have hF:=hF.trans e2 zr;have c9:=e2.cell c9 zq;have c22:=e2.cell c22 zq;have c24:=e2.cell c24 zq)|(go_at_call 168;(with_reducible refine (kA4.out _ hF).mono ?_);rintro _ v3 ⟨rfl,e3⟩;have hF:=hF.trans e3 zr;have c22:=e3.cell c22 zq;have c24:=e3.cell c24 zq)|(go_at_call 160;(with_reducible refine (kA5.out _ hF).mono ?_);rintro _ v4 ⟨rfl,e4⟩;have hF:=hF.trans e4 zr;have c24:=e4.cell c24 zq)|(go_at_call 169;(with_reducible refine (kA6.out _ hF).mono ?_);rintro _ v5 ⟨rfl,e5⟩;have hF:=hF.trans e5 zr))
    go_ret
    exact ⟨congrArg (fun z=>Ending.returned (.bool z)) hv.out,hF⟩
   cases g2
   ·
    have hv:Hid (false=LB):=hfin.out.symm
    clear hfin
    go_wp2_with (first|(go_at_call 164;(with_reducible refine (kA1.out _ hF).mono ?_);rintro _ v0 ⟨rfl,e0⟩;have hF:=hF.trans e0 zr;have c15:=e0.cell c15 zq;have c4:=e0.cell c4 zq;have c9:=e0.cell c9 zq;have c22:=e0.cell c22 zq;have c24:=e0.cell c24 zq)|(go_at_call 165;(with_reducible refine (kA2.out _ hF).mono ?_);rintro _ v1 ⟨rfl,e1⟩;have hF:=hF.trans e1 zr;have c4:=e1.cell c4 zq;have c9:=e1.cell c9 zq;have c22:=e1.cell c22 zq;have c24:=e1.cell c24 zq)|(go_at_call 167;(with_reducible refine (kA3.out _ hF).mono ?_);rintro _ v2 ⟨rfl,e2⟩;have hF:=hF.trans e2 zr;have c9:=e2.cell c9 zq;have c22:=e2.cell c22 zq;have c24:=e2.cell c24 zq)|(go_at_call 168;(with_reducible refine (kA4.out _ hF).mono ?_);rintro _ v3 ⟨rfl,e3⟩;have hF:=hF.trans e3 zr;have c22:=e3.cell c22 zq;have c24:=e3.cell c24 zq)|(go_at_call 160;(with_reducible refine (kA5.out _ hF).mono ?_);rintro _ v4 ⟨rfl,e4⟩;have hF:=hF.trans e4 zr;have c24:=e4.cell c24 zq)|(go_at_call 169;(with_reducible refine (kA6.out _ hF).mono ?_);rintro _ v5 ⟨rfl,e5⟩;have hF:=hF.trans e5 zr))
    go_ret
    exact ⟨congrArg (fun z=>Ending.returned (.bool z)) hv.out,hF⟩
   cases g3
   ·
    have hv:Hid (false=LB):=hfin.out.symm
    clear hfin
    go_wp2_with (first|(go_at_call 164;(with_reducible refine (kA1.out _ hF).mono ?_);rintro _ v0 ⟨rfl,e0⟩;have hF:=hF.trans e0 zr;have c15:=e0.cell c15 zq;have c4:=e0.cell c4 zq;have c9:=e0.cell c9 zq;have c22:=e0.cell c22 zq;have c24:=e0.cell c24 zq)|(go_at_call 165;(with_reducible refine (kA2.out _ hF).mono ?_);rintro _ v1 ⟨rfl,e1⟩;have hF:=hF.trans e1 zr;have c4:=e1.cell c4 zq;have c9:=e1.cell c9 zq;have c22:=e1.cell c22 zq;have c24:=e1.cell c24 zq)|(go_at_call 167;(with_reducible refine (kA3.out _ hF).mono ?_);rintro _ v2 ⟨rfl,e2⟩;have hF:=hF.trans e2 zr;have c9:=e2.cell c9 zq;have c22:=e2.cell c22 zq;have c24:=e2.cell c24 zq)|(go_at_call 168;(with_reducible refine (kA4.out _ hF).mono ?_);rintro _ v3 ⟨rfl,e3⟩;have hF:=hF.trans e3 zr;have c22:=e3.cell c22 zq;have c24:=e3.cell c24 zq)|(go_at_call 160;(with_reducible refine (kA5.out _ hF).mono ?_);rintro _ v4 ⟨rfl,e4⟩;have hF:=hF.trans e4 zr;have c24:=e4.cell c24 zq)|(go_at_call 169;(with_reducible refine (kA6.out _ hF).mono ?_);rintro _ v5 ⟨rfl,e5⟩;have hF:=hF.trans e5 zr))
    go_ret
    exact ⟨congrArg (fun z=>Ending.returned (.bool z)) hv.out,hF⟩
   cases g4
   ·
    have hv:Hid (false=LB):=hfin.out.symm
    clear hfin
    go_wp2_with (first|(go_at_call 164;(with_reducible refine (kA1.out _ hF).mono ?_);rintro _ v0 ⟨rfl,e0⟩;have hF:=hF.trans e0 zr;have c15:=e0.cell c15 zq;have c4:=e0.cell c4 zq;have c9:=e0.cell c9 zq;have c22:=e0.cell c22 zq;have c24:=e0.cell c24 zq)|(go_at_call 165;(with_reducible refine (kA2.out _ hF).mono ?_);rintro _ v1 ⟨rfl,e1⟩;have hF:=hF.trans e1 zr;have c4:=e1.cell c4 zq;have c9:=e1.cell c9 zq;have c22:=e1.cell c22 zq;have c24:=e1.cell c24 zq)|(go_at_call 167;(with_reducible refine (kA3.out _ hF).mono ?_);rintro _ v2 ⟨rfl,e2⟩;have hF:=hF.trans e2 zr;have c9:=e2.cell c9 zq;have c22:=e2.cell c22 zq;have c24:=e2.cell c24 zq)|(go_at_call 168;(with_reducible refine (kA4.out _ hF).mono ?_);rintro _ v3 ⟨rfl,e3⟩;have hF:=hF.trans e3 zr;have c22:=e3.cell c22 zq;have c24:=e3.cell c24 zq)|(go_at_call 160;(with_reducible refine (kA5.out _ hF).mono ?_);rintro _ v4 ⟨rfl,e4⟩;have hF:=hF.trans e4 zr;have c24:=e4.cell c24 zq)|(go_at_call 169;(with_reducible refine (kA6.out _ hF).mono ?_);rintro _ v5 ⟨rfl,e5⟩;have hF:=hF.trans e5 zr))
    go_ret
    exact ⟨congrArg (fun z=>Ending.returned (.bool z)) hv.out,hF⟩
   cases g5
   ·
    have hv:Hid (false=LB):=hfin.out.symm
    clear hfin
    go_wp2_with (first|(go_at_call 164;(with_reducible refine (kA1.out _ hF).mono ?_);rintro _ v0 ⟨rfl,e0⟩;have hF:=hF.trans e0 zr;have c15:=e0.cell c15 zq;have c4:=e0.cell c4 zq;have c9:=e0.cell c9 zq;have c22:=e0.cell c22 zq;have c24:=e0.cell c24 zq)|(go_at_call 165;(with_reducible refine (kA2.out _ hF).mono ?_);rintro _ v1 ⟨rfl,e1⟩;have hF:=hF.trans e1 zr;have c4:=e1.cell c4 zq;have c9:=e1.cell c9 zq;have c22:=e1.cell c22 zq;have c24:=e1.cell c24 zq)|(go_at_call 167;(with_reducible refine (kA3.out _ hF).mono ?_);rintro _ v2 ⟨rfl,e2⟩;have hF:=hF.trans e2 zr;have c9:=e2.cell c9 zq;have c22:=e2.cell c22 zq;have c24:=e2.cell c24 zq)|(go_at_call 168;(with_reducible refine (kA4.out _ hF).mono ?_);rintro _ v3 ⟨rfl,e3⟩;have hF:=hF.trans e3 zr;have c22:=e3.cell c22 zq;have c24:=e3.cell c24 zq)|(go_at_call 160;(with_reducible refine (kA5.out _ hF).mono ?_);rintro _ v4 ⟨rfl,e4⟩;have hF:=hF.trans e4 zr;have c24:=e4.cell c24 zq)|(go_at_call 169;(with_reducible refine (kA6.out _ hF).mono ?_);rintro _ v5 ⟨rfl,e5⟩;have hF:=hF.trans e5 zr))
    go_ret
    exact ⟨congrArg (fun z=>Ending.returned (.bool z)) hv.out,hF⟩
   have hv:Hid (g6=LB):=hfin.out.symm
   clear hfin
   go_wp2_with (first|(go_at_call 164;(with_reducible refine (kA1.out _ hF).mono ?_);rintro _ v0 ⟨rfl,e0⟩;have hF:=hF.trans e0 zr;have c15:=e0.cell c15 zq;have c4:=e0.cell c4 zq;have c9:=e0.cell c9 zq;have c22:=e0.cell c22 zq;have c24:=e0.cell c24 zq)|(go_at_call 165;(with_reducible refine (kA2.out _ hF).mono ?_);rintro _ v1 ⟨rfl,e1⟩;have hF:=hF.trans e1 zr;have c4:=e1.cell c4 zq;have c9:=e1.cell c9 zq;have c22:=e1.cell c22 zq;have c24:=e1.cell c24 zq)|(go_at_call 167;(with_reducible refine (kA3.out _ hF).mono ?_);rintro _ v2 ⟨rfl,e2⟩;have hF:=hF.trans e2 zr;have c9:=e2.cell c9 zq;have c22:=e2.cell c22 zq;have c24:=e2.cell c24 zq)|(go_at_call 168;(with_reducible refine (kA4.out _ hF).mono ?_);rintro _ v3 ⟨rfl,e3⟩;have hF:=hF.trans e3 zr;have c22:=e3.cell c22 zq;have c24:=e3.cell c24 zq)|(go_at_call 160;(with_reducible refine (kA5.out _ hF).mono ?_);rintro _ v4 ⟨rfl,e4⟩;have hF:=hF.trans e4 zr;have c24:=e4.cell c24 zq)|(go_at_call 169;(with_reducible refine (kA6.out _ hF).mono ?_);rintro _ v5 ⟨rfl,e5⟩;have hF:=hF.trans e5 zr))
   go_ret
   exact ⟨congrArg (fun z=>Ending.returned (.bool z)) hv.out,hF⟩
  ·
   intro k v w3 cnt3 hv hlk hrg3 hlt3 hgr3 hsz3 hen
   clear kA1 kA2 kA3 kA4 kA5 kA6 c4 c9 c15 c19 c22 c24
   obtain ⟨c,rfl,hfc⟩:=hsays.entry hv
   obtain ⟨y,hy1,hy2⟩:=Option.map_eq_some_iff.1 hfc
   have hyk:=List.find?_some hy1
   obtain ⟨j,hj,hk,hbv⟩:=Y3 x y (List.mem_of_find?_eq_some hy1)
   obtain rfl:y.2.1=k:=by simpa using hyk
   rw [hk] at hlk hrg3 hen ⊢
   have hc:x.mayB j=c:=by rw [← hbv,hy2]
   have hgF:Fr (fun k=>some w1.heap.size=some k) wr w3:=Fr.grown (Fr.refl _ _) hgr3 (fun k hk _=>hk)
   have hF3:Fr Non w w3:=hF.trans hgF (fun i hi e=>by cases e;have:=hF1s;omega)
   have hFr3:Fr (fun k=>w1.heap.size≤k) w2 w3:=hFr.trans hgF (fun i hi e=>by cases e;exact Nat.le_refl _)
   have hme:w3.rangeLeft b w1.heap.size<wr.rangeLeft b w1.heap.size:=by rw [hrg3.left_eq,hrg.left_eq];exact hlt3
   have hnd:=Xv has j hhas hj
   have hne:(bits .and .i64 (has:Int) ((2^j:Nat):Int) !=0)=has.testBit j:=by rw [bne,← Bool.not_not (has.testBit j),← hnd];rfl
   have hRA2:=Lib.hid (RA.step (x:=x) (has:=has) (j:=j) hRA hj)
   have hno:=Lib.hid (fun h1 h2=>Y6 (x:=x) (has:=has) hj h1 h2)
   generalize hpj:((2^j:Nat):Int)=pj at*
   clear hv hfc hy1 hy2 hyk hk hbv hrg hnd hsays
   generalize htb:has.testBit j=tb at*
   generalize x.mayB j=mj at*
   subst hc
   cases tb<;>cases mj
   case true.false=>
    have hv:Hid (false=LB):=by show _=_;rw [hfin.out,hno.out rfl rfl];rfl
    clear hfin hno hRA2
    go_wp2_with (fail)
    go_ret
    exact ⟨congrArg (fun z=>Ending.returned (.bool z)) hv.out,hF3⟩
   all_goals
    clear hno hfin
    go_wp2_with (fail)
    exact ⟨⟨_,cnt3,hrg3,hRA2.out (by decide),hF3,hFr3⟩,hme⟩
end Oq
end
section
open Go.RowKit
attribute [local go_sem ↓] Go.wp_at_zero Go.wp_at_succ
namespace Oq
attribute [local go_sem] Bool.not_false Bool.not_true
theorem E1 {α:Type} (l:List α) (q:α→Bool) {k:Nat} {x:α} (h:l[k]? =some x):(l.take (k+1)).all q=((l.take k).all q&&q x):=by
 obtain ⟨hk,rfl⟩:=List.getElem?_eq_some_iff.1 h
 rw [List.take_succ_eq_append_getElem hk,List.all_append]
 simp
theorem Ql (B n c : Nat) (A : Option Addr) (l : List Bx) (w : World) (hn : Hid (l.length = n)) (hr : Rd w B 4 A n (l.flatMap Bx.cells)) (hnm : n ≤ 1000000) :
    Calls Tryz.prog 155 #[.slice A n c] w (Af (l.all Bx.may) w) := by
  go_enter Tryz.func155, Tryz.ntmps155
  go_wp2
  go_loopw [3] (fun v wr => ∃ k : Nat, v = .int .i64 (k : Int) ∧ k ≤ n ∧ Hid ((l.take k).all Bx.may = true) ∧ Fr Non w wr) (fun v _ => n - (intOf v).toNat)
  case atStart => exact ⟨0, rfl, by omega, rfl, Fr.refl _ _⟩
  case round =>
    obtain ⟨k, rfl, hk, hh, hf⟩ := hrel
    by_cases hlt : k < n
    · have i1 : (0 : Int) ≤ k := by omega
      have i2 : (k : Int) < n := by omega
      have i3 : (k : Int).toNat = k := by omega
      obtain ⟨x, hx⟩ : ∃ x, l[k]? = some x := ⟨_, Al1 (by rw [hn.out]; exact hlt)⟩
      obtain ⟨b, off, rfl, hbB, k0, k1, k2, k3⟩ := Bx.at (hr.fr hf (fun _ _ e => e)) hx
      have hmem := Al2 hx
      have hsn : Hid ((l.take (k + 1)).all Bx.may = ((l.take k).all Bx.may && Bx.may x)) := E1 l Bx.may hx
      have hno : Hid (Bx.may x = false → l.all Bx.may = false) := fun h => List.all_eq_false.2 ⟨x, hmem, by rw [h]; simp⟩
      have hmay : Hid (Bx.may x = (Ay x.t && Ay x.e && fOk x.y && fOk x.g)) := rfl
      rw [hmay.out] at hsn hno
      have q1 := Lib.hid (fun w' => Ip x.t w')
      have q2 := Lib.hid (fun w' => Ip x.e w')
      have q3 := Lib.hid (fun w' => Ir x.y w')
      have q4 := Lib.hid (fun w' => Ir x.g w')
      clear hx hmem hmay
      generalize Ay x.t = b1 at *
      generalize Ay x.e = b2 at *
      generalize fOk x.y = b3 at *
      generalize fOk x.g = b4 at *
      have tok1 : True := trivial
      have tok3 : True := trivial
      cases b1 <;> cases b2 <;> cases b3 <;> cases b4
      all_goals
        go_wp2_with (first
          | (have _t := tok1; go_at_call 153; (with_reducible refine (q1.out _).mono ?_); rintro _ w1 ⟨rfl, f1⟩; have k1' := f1.cell k1 (fun e => e); have k2' := f1.cell k2 (fun e => e); have k3' := f1.cell k3 (fun e => e); have fz1 := hf.trans f1 (fun _ _ e => e); clear tok1 _t)
          | (go_at_call 153; (with_reducible refine (q2.out _).mono ?_); rintro _ w2 ⟨rfl, f2⟩; have k2'' := f2.cell k2' (fun e => e); have k3'' := f2.cell k3' (fun e => e); have fz2 := fz1.trans f2 (fun _ _ e => e))
          | (have _t := tok3; go_at_call 154; (with_reducible refine (q3.out _).mono ?_); rintro _ w3 ⟨rfl, f3⟩; have k3''' := f3.cell k3'' (fun e => e); have fz3 := fz2.trans f3 (fun _ _ e => e); clear tok3 _t)
          | (go_at_call 154; (with_reducible refine (q4.out _).mono ?_); rintro _ w4 ⟨rfl, f4⟩; have fz4 := fz3.trans f4 (fun _ _ e => e)))
        first
          | (go_ret; first | exact ⟨by rw [hno.out rfl]; rfl, fz4⟩ | exact ⟨by rw [hno.out rfl]; rfl, fz3⟩ | exact ⟨by rw [hno.out rfl]; rfl, fz2⟩ | exact ⟨by rw [hno.out rfl]; rfl, fz1⟩)
          | (go_roundw
             case rel => exact ⟨k + 1, by go_num, by omega, by show _ = _; rw [hsn.out, hh.out]; rfl, fz4⟩
             case measure => simp [intOf]; omega)
    · obtain rfl : k = n := by omega
      have hfin : Hid (l.all Bx.may = true) := by have h := hh.out; rw [Al3 (by rw [hn.out]; omega)] at h; exact h
      go_wp2
      go_ret
      exact ⟨by rw [hfin.out]; rfl, hf⟩
def OpL.itemsR (x:OpL):Bool:=x.guards.all (fun n=>inR n 1 12)&&(x.refs.all fOk&&(x.past.all Id.named&&(x.path.all (fun y=>Ay y.p&&y.xs.all Bx.may)&&(x.hist.all (fun y=>y.f.named)&&x.boxes.all Bx.may))))
theorem Y8 (x:OpL) (w:World) (hat:x.at w w.heap.size) (hok:x.op.ok):Calls Tryz.prog 111 #[.agg x.cells] w (Af x.itemsR w):=by
 have hb0:=Blk.new w 44 x.cells
 have f0:Fr Non w (w.alloc (.cells x.cells 44)):=(Fr.refl Non w).alloc _
 have c4:(w.alloc (.cells x.cells 44)).cell? ⟨w.heap.size,4,none⟩=some (.slice x.pastA x.past.length x.pastC):=hb0.cell 4
 have c9:(w.alloc (.cells x.cells 44)).cell? ⟨w.heap.size,9,none⟩=some (.slice x.pathA x.path.length x.pathC):=hb0.cell 9
 have c15:(w.alloc (.cells x.cells 44)).cell? ⟨w.heap.size,15,none⟩=some (.slice x.refsA x.refs.length x.refsC):=hb0.cell 15
 have c19:(w.alloc (.cells x.cells 44)).cell? ⟨w.heap.size,19,none⟩=some (.slice x.guardsA x.guards.length x.guardsC):=hb0.cell 19
 have c22:(w.alloc (.cells x.cells 44)).cell? ⟨w.heap.size,22,none⟩=some (.slice x.boxesA x.boxes.length x.boxesC):=hb0.cell 22
 have c24:(w.alloc (.cells x.cells 44)).cell? ⟨w.heap.size,24,none⟩=some (.slice x.histA x.hist.length x.histC):=hb0.cell 24
 have lguards:x.guards.length≤1000000:=by have h:=hok.guards.1;rw [show x.op.guards=x.guards from rfl] at h;omega
 have lrefs:x.refs.length≤1000000:=by have h:=hok.refs.1;rw [show x.op.refs=x.refs from rfl] at h;omega
 have lboxes:x.boxes.length≤1000000:=by have h:=hok.boxes.1;rw [show x.op.boxes=x.boxes from rfl] at h;omega
 have lnodes:Hid (∀y∈x.path,y.xs.length≤1000000):=fun y hy=>by have h:=(hok.path.2 y.nd (List.mem_map.2 ⟨y,hy,rfl⟩)).2.1;rw [show y.nd.xs=y.xs from rfl] at h;omega
 have lpast:x.past.length≤1000000:=by have h:=hok.past.1;rw [show x.op.past=x.past from rfl] at h;omega
 have lpath:x.path.length≤1000000:=by have h:=hok.path.1;rw [show x.op.path=x.path.map NdL.nd from rfl,Al4] at h;omega
 have lhist:x.hist.length≤1000000:=by have h:=hok.hist.1;rw [show x.op.hist=x.hist.map SlL.sl from rfl,Al4] at h;omega
 have hnodes:Hid (∀y∈x.path,y.at (w.alloc (.cells x.cells 44)) w.heap.size):=fun y hy=>(hat.nodes y hy).fr f0 zr
 have rpast:=hat.past.1.fr f0 zr
 have rpath:=hat.path.1.fr f0 zr
 have rrefs:=hat.refs.1.fr f0 zr
 have rguards:=hat.guards.1.fr f0 zr
 have rboxes:=hat.boxes.1.fr f0 zr
 have rhist:=hat.hist.1.fr f0 zr
 have hfin:Hid (x.itemsR=(x.guards.all (fun n=>inR n 1 12)&&(x.refs.all fOk&&(x.past.all Id.named&&(x.path.all (fun y=>Ay y.p&&y.xs.all Bx.may)&&(x.hist.all (fun y=>y.f.named)&&x.boxes.all Bx.may)))))):=rfl
 generalize x.itemsR=LB at*
 obtain ⟨n_past,hn_past⟩:=Aa x.past.length
 rw [hn_past.out] at rpast lpast c4
 obtain ⟨n_path,hn_path⟩:=Aa x.path.length
 rw [hn_path.out] at rpath lpath c9
 obtain ⟨n_refs,hn_refs⟩:=Aa x.refs.length
 rw [hn_refs.out] at rrefs lrefs c15
 obtain ⟨n_guards,hn_guards⟩:=Aa x.guards.length
 rw [hn_guards.out] at rguards lguards c19
 obtain ⟨n_boxes,hn_boxes⟩:=Aa x.boxes.length
 rw [hn_boxes.out] at rboxes lboxes c22
 obtain ⟨n_hist,hn_hist⟩:=Aa x.hist.length
 rw [hn_hist.out] at rhist lhist c24
 generalize x.cells=CS at*
 clear hb0 hat hok
 go_enter Tryz.func111,Tryz.ntmps111
 go_upto_region 1 with (fail)
 generalize w.alloc (.cells CS 44)=w0 at*
 go_wp2_with (fail)
 go_loopw [3] (fun v wr=>∃k:Nat,v=.int .i64 (k:Int)∧k≤n_guards∧Hid ((x.guards.take k).all (fun n=>inR n 1 12)=true)∧Fr Non w0 wr) (fun v _=>n_guards-(intOf v).toNat)
 case atStart=>exact ⟨0,rfl,by omega,rfl,Fr.refl _ _⟩
 case round=>
  obtain ⟨k,rfl,hk,hh,hf⟩:=hrel
  have cc:=hf.cell c19 zq
  by_cases hlt:k<n_guards
  ·
   have i1:(0:Int)≤k:=by omega
   have i2:(k:Int)<n_guards:=by omega
   have i3:(k:Int).toNat=k:=by omega
   obtain ⟨y,hy⟩:∃y,x.guards[k]? =some y:=⟨_,Al1 (by rw [hn_guards.out];exact hlt)⟩
   obtain ⟨b,off,u,hA,hbB,hu,k0⟩:=(rguards.fr hf zr).at hlt
   rw [Al5,hy] at hu
   obtain rfl:=(Option.some.inj hu).symm
   replace k0:wr.cell? ⟨b,off+k,none⟩=some (.int .i64 y):=k0
   rw [hA] at cc
   have hmem:=Al2 hy
   have hsn:Hid ((x.guards.take (k+1)).all (fun n=>inR n 1 12)=((x.guards.take k).all (fun n=>inR n 1 12)&&inR y 1 12)):=E1 x.guards (fun n=>inR n 1 12) hy
   have hno:Hid (inR y 1 12=false→x.guards.all (fun n=>inR n 1 12)=false):=fun h=>List.all_eq_false.2 ⟨y,hmem,by rw [h];simp⟩
   clear hy hmem
   have kc:=Lib.hid (fun w'=>Ga y 1 12 w')
   generalize inR y 1 12=pb at*
   cases pb
   ·
    have hv:Hid (false=LB):=by show _=_;rw [hfin.out,hno.out rfl];rfl
    clear hfin hno hsn
    go_wp2_with (go_at_call 151;(with_reducible refine (kc.out _).mono ?_);rintro _ w1 ⟨rfl,f1⟩)
    go_ret
    exact ⟨congrArg (fun z=>Ending.returned (.bool z)) hv.out,(f0.trans hf zr).trans f1 zr⟩
   ·
    have hsn':Hid ((x.guards.take (k+1)).all (fun n=>inR n 1 12)=true):=by show _=_;rw [hsn.out,hh.out];rfl
    clear hno hsn
    go_wp2_with (go_at_call 151;(with_reducible refine (kc.out _).mono ?_);rintro _ w1 ⟨rfl,f1⟩)
    go_roundw
    case rel=>exact ⟨k+1,by go_num,by omega,hsn',hf.trans f1 zr⟩
    case measure=>simp [intOf];omega
  ·
   obtain rfl:n_guards=k:=by omega
   have hpa:x.guards.all (fun n=>inR n 1 12)=true:=by have h:=hh.out;rw [Al3 (by rw [hn_guards.out];omega)] at h;exact h
   replace hfin:Hid (LB=(x.refs.all fOk&&(x.past.all Id.named&&(x.path.all (fun y=>Ay y.p&&y.xs.all Bx.may)&&(x.hist.all (fun y=>y.f.named)&&(x.boxes.all Bx.may)))))):=by show _=_;rw [hfin.out,hpa];rfl
   clear hpa hh rguards hn_guards hlt hk
   go_wp2_with (fail)
   go_loopw [4] (fun v wr=>∃k:Nat,v=.int .i64 (k:Int)∧k≤n_refs∧Hid ((x.refs.take k).all fOk=true)∧Fr Non w0 wr) (fun v _=>n_refs-(intOf v).toNat)
   case atStart=>exact ⟨0,rfl,by omega,rfl,hf⟩
   case round=>
    obtain ⟨k,rfl,hk,hh,hf⟩:=hrel
    have cc:=hf.cell c15 zq
    by_cases hlt:k<n_refs
    ·
     have i1:(0:Int)≤k:=by omega
     have i2:(k:Int)<n_refs:=by omega
     have i3:(k:Int).toNat=k:=by omega
     obtain ⟨y,hy⟩:∃y,x.refs[k]? =some y:=⟨_,Al1 (by rw [hn_refs.out];exact hlt)⟩
     obtain ⟨b,off,u,hA,hbB,hu,k0⟩:=(rrefs.fr hf zr).at hlt
     rw [Al5,hy] at hu
     obtain rfl:=(Option.some.inj hu).symm
     replace k0:wr.cell? ⟨b,off+k,none⟩=some (.int .u64 (y:Int)):=k0
     rw [hA] at cc
     have hmem:=Al2 hy
     have hsn:Hid ((x.refs.take (k+1)).all fOk=((x.refs.take k).all fOk&&fOk y)):=E1 x.refs fOk hy
     have hno:Hid (fOk y=false→x.refs.all fOk=false):=fun h=>List.all_eq_false.2 ⟨y,hmem,by rw [h];simp⟩
     clear hy hmem
     have kc:=Lib.hid (fun w'=>Ir y w')
     generalize fOk y=pb at*
     cases pb
     ·
      have hv:Hid (false=LB):=by show _=_;rw [hfin.out,hno.out rfl];rfl
      clear hfin hno hsn
      go_wp2_with (go_at_call 154;(with_reducible refine (kc.out _).mono ?_);rintro _ w1 ⟨rfl,f1⟩)
      go_ret
      exact ⟨congrArg (fun z=>Ending.returned (.bool z)) hv.out,(f0.trans hf zr).trans f1 zr⟩
     ·
      have hsn':Hid ((x.refs.take (k+1)).all fOk=true):=by show _=_;rw [hsn.out,hh.out];rfl
      clear hno hsn
      go_wp2_with (go_at_call 154;(with_reducible refine (kc.out _).mono ?_);rintro _ w1 ⟨rfl,f1⟩)
      go_roundw
      case rel=>exact ⟨k+1,by go_num,by omega,hsn',hf.trans f1 zr⟩
      case measure=>simp [intOf];omega
    ·
     obtain rfl:n_refs=k:=by omega
     have hpa:x.refs.all fOk=true:=by have h:=hh.out;rw [Al3 (by rw [hn_refs.out];omega)] at h;exact h
     replace hfin:Hid (LB=(x.past.all Id.named&&(x.path.all (fun y=>Ay y.p&&y.xs.all Bx.may)&&(x.hist.all (fun y=>y.f.named)&&(x.boxes.all Bx.may))))):=by show _=_;rw [hfin.out,hpa];rfl
     clear hpa hh rrefs hn_refs hlt hk
     go_wp2_with (fail)
     go_loopw [5] (fun v wr=>∃k:Nat,v=.int .i64 (k:Int)∧k≤n_past∧Hid ((x.past.take k).all Id.named=true)∧Fr Non w0 wr) (fun v _=>n_past-(intOf v).toNat)
     case atStart=>exact ⟨0,rfl,by omega,rfl,hf⟩
     case round=>
      obtain ⟨k,rfl,hk,hh,hf⟩:=hrel
      have cc:=hf.cell c4 zq
      by_cases hlt:k<n_past
      ·
       have i1:(0:Int)≤k:=by omega
       have i2:(k:Int)<n_past:=by omega
       have i3:(k:Int).toNat=k:=by omega
       obtain ⟨y,hy⟩:∃y,x.past[k]? =some y:=⟨_,Al1 (by rw [hn_past.out];exact hlt)⟩
       obtain ⟨b,off,hA,hbB,k0,k1,k2⟩:=Id.at (rpast.fr hf zr) hy
       rw [hA] at cc
       have hmem:=Al2 hy
       have hsn:Hid ((x.past.take (k+1)).all Id.named=((x.past.take k).all Id.named&&y.named)):=E1 x.past Id.named hy
       have hno:Hid (y.named=false→x.past.all Id.named=false):=fun h=>List.all_eq_false.2 ⟨y,hmem,by rw [h];simp⟩
       clear hy hmem
       have kc:=Lib.hid (fun w'=>Lb y w')
       generalize y.named=pb at*
       cases pb
       ·
        have hv:Hid (false=LB):=by show _=_;rw [hfin.out,hno.out rfl];rfl
        clear hfin hno hsn
        go_wp2_with (go_at_call 152;(with_reducible refine (kc.out _).mono ?_);rintro _ w1 ⟨rfl,f1⟩)
        go_ret
        exact ⟨congrArg (fun z=>Ending.returned (.bool z)) hv.out,(f0.trans hf zr).trans f1 zr⟩
       ·
        have hsn':Hid ((x.past.take (k+1)).all Id.named=true):=by show _=_;rw [hsn.out,hh.out];rfl
        clear hno hsn
        go_wp2_with (go_at_call 152;(with_reducible refine (kc.out _).mono ?_);rintro _ w1 ⟨rfl,f1⟩)
        go_roundw
        case rel=>exact ⟨k+1,by go_num,by omega,hsn',hf.trans f1 zr⟩
        case measure=>simp [intOf];omega
      ·
       obtain rfl:n_past=k:=by omega
       have hpa:x.past.all Id.named=true:=by have h:=hh.out;rw [Al3 (by rw [hn_past.out];omega)] at h;exact h
       replace hfin:Hid (LB=(x.path.all (fun y=>Ay y.p&&y.xs.all Bx.may)&&(x.hist.all (fun y=>y.f.named)&&(x.boxes.all Bx.may)))):=by show _=_;rw [hfin.out,hpa];rfl
       clear hpa hh rpast hn_past hlt hk
       go_wp2_with (fail)
       go_loopw [6] (fun v wr=>∃k:Nat,v=.int .i64 (k:Int)∧k≤n_path∧Hid ((x.path.take k).all (fun y=>Ay y.p&&y.xs.all Bx.may)=true)∧Fr Non w0 wr) (fun v _=>n_path-(intOf v).toNat)
       case atStart=>exact ⟨0,rfl,by omega,rfl,hf⟩
       case round=>
        obtain ⟨k,rfl,hk,hh,hf⟩:=hrel
        have cc:=hf.cell c9 zq
        by_cases hlt:k<n_path
        ·
         have i1:(0:Int)≤k:=by omega
         have i2:(k:Int)<n_path:=by omega
         have i3:(k:Int).toNat=k:=by omega
         obtain ⟨y,hy⟩:∃y,x.path[k]? =some y:=⟨_,Al1 (by rw [hn_path.out];exact hlt)⟩
         obtain ⟨b,off,hA,hbB,k0,k1⟩:=NdL.el (rpath.fr hf zr) hy
         rw [hA] at cc
         have hmem:=Al2 hy
         have hsn:Hid ((x.path.take (k+1)).all (fun y=>Ay y.p&&y.xs.all Bx.may)=((x.path.take k).all (fun y=>Ay y.p&&y.xs.all Bx.may)&&(Ay y.p&&y.xs.all Bx.may))):=E1 x.path (fun y=>Ay y.p&&y.xs.all Bx.may) hy
         have hno:Hid ((Ay y.p&&y.xs.all Bx.may)=false→x.path.all (fun y=>Ay y.p&&y.xs.all Bx.may)=false):=fun h=>List.all_eq_false.2 ⟨y,hmem,by rw [h];simp⟩
         have hy2:=(hnodes.out y hmem).fr hf zr
         have hl2:=lnodes.out y hmem
         clear hy hmem
         have kc:=Lib.hid (fun w'=>Ip y.p w')
         have kd:=Lib.hid (fun w' (h:Fr Non wr w')=>Ql w.heap.size y.xs.length y.c y.A y.xs w' rfl (hy2.1.fr h zr) hl2)
         generalize Ay y.p=pb at*
         generalize y.xs.all Bx.may=pd at*
         cases pb
         ·
          have hv:Hid (false=LB):=by show _=_;rw [hfin.out,hno.out rfl];rfl
          clear hfin hno hsn
          go_wp2_with (first|(go_at_call 153;(with_reducible refine (kc.out _).mono ?_);rintro _ w1 ⟨rfl,f1⟩;have cc:=f1.cell cc zq;have k0:=f1.cell k0 zq;have k1:=f1.cell k1 zq)|(go_at_call 155;(with_reducible refine (kd.out _ f1).mono ?_);rintro _ w2 ⟨rfl,f2⟩;have f12:=f1.trans f2 zr))
          go_ret
          exact ⟨congrArg (fun z=>Ending.returned (.bool z)) hv.out,(f0.trans hf zr).trans f1 zr⟩
         cases pd
         ·
          have hv:Hid (false=LB):=by show _=_;rw [hfin.out,hno.out rfl];rfl
          clear hfin hno hsn
          go_wp2_with (first|(go_at_call 153;(with_reducible refine (kc.out _).mono ?_);rintro _ w1 ⟨rfl,f1⟩;have cc:=f1.cell cc zq;have k0:=f1.cell k0 zq;have k1:=f1.cell k1 zq)|(go_at_call 155;(with_reducible refine (kd.out _ f1).mono ?_);rintro _ w2 ⟨rfl,f2⟩;have f12:=f1.trans f2 zr))
          go_ret
          exact ⟨congrArg (fun z=>Ending.returned (.bool z)) hv.out,(f0.trans hf zr).trans f12 zr⟩
         ·
          have hsn':Hid ((x.path.take (k+1)).all (fun y=>Ay y.p&&y.xs.all Bx.may)=true):=by show _=_;rw [hsn.out,hh.out];rfl
          clear hno hsn
          go_wp2_with (first|(go_at_call 153;(with_reducible refine (kc.out _).mono ?_);rintro _ w1 ⟨rfl,f1⟩;have cc:=f1.cell cc zq;have k0:=f1.cell k0 zq;have k1:=f1.cell k1 zq)|(go_at_call 155;(with_reducible refine (kd.out _ f1).mono ?_);rintro _ w2 ⟨rfl,f2⟩;have f12:=f1.trans f2 zr))
          go_roundw
          case rel=>exact ⟨k+1,by go_num,by omega,hsn',hf.trans f12 zr⟩
          case measure=>simp [intOf];omega
        ·
         obtain rfl:n_path=k:=by omega
         have hpa:x.path.all (fun y=>Ay y.p&&y.xs.all Bx.may)=true:=by have h:=hh.out;rw [Al3 (by rw [hn_path.out];omega)] at h;exact h
         replace hfin:Hid (LB=(x.hist.all (fun y=>y.f.named)&&(x.boxes.all Bx.may))):=by show _=_;rw [hfin.out,hpa];rfl
         clear hpa hh rpath hn_path hlt hk
         go_wp2_with (fail)
         go_loopw [7] (fun v wr=>∃k:Nat,v=.int .i64 (k:Int)∧k≤n_hist∧Hid ((x.hist.take k).all (fun y=>y.f.named)=true)∧Fr Non w0 wr) (fun v _=>n_hist-(intOf v).toNat)
         case atStart=>exact ⟨0,rfl,by omega,rfl,hf⟩
         case round=>
          obtain ⟨k,rfl,hk,hh,hf⟩:=hrel
          have cc:=hf.cell c24 zq
          by_cases hlt:k<n_hist
          ·
           have i1:(0:Int)≤k:=by omega
           have i2:(k:Int)<n_hist:=by omega
           have i3:(k:Int).toNat=k:=by omega
           obtain ⟨y,hy⟩:∃y,x.hist[k]? =some y:=⟨_,Al1 (by rw [hn_hist.out];exact hlt)⟩
           obtain ⟨b,off,hA,hbB,k0,k1,k2,k3⟩:=SlL.el (rhist.fr hf zr) hy
           rw [hA] at cc
           have hmem:=Al2 hy
           have hsn:Hid ((x.hist.take (k+1)).all (fun y=>y.f.named)=((x.hist.take k).all (fun y=>y.f.named)&&y.f.named)):=E1 x.hist (fun y=>y.f.named) hy
           have hno:Hid (y.f.named=false→x.hist.all (fun y=>y.f.named)=false):=fun h=>List.all_eq_false.2 ⟨y,hmem,by rw [h];simp⟩
           clear hy hmem
           have kc:=Lib.hid (fun w'=>Lb y.f w')
           generalize y.f.named=pb at*
           cases pb
           ·
            have hv:Hid (false=LB):=by show _=_;rw [hfin.out,hno.out rfl];rfl
            clear hfin hno hsn
            go_wp2_with (go_at_call 152;(with_reducible refine (kc.out _).mono ?_);rintro _ w1 ⟨rfl,f1⟩)
            go_ret
            exact ⟨congrArg (fun z=>Ending.returned (.bool z)) hv.out,(f0.trans hf zr).trans f1 zr⟩
           ·
            have hsn':Hid ((x.hist.take (k+1)).all (fun y=>y.f.named)=true):=by show _=_;rw [hsn.out,hh.out];rfl
            clear hno hsn
            go_wp2_with (go_at_call 152;(with_reducible refine (kc.out _).mono ?_);rintro _ w1 ⟨rfl,f1⟩)
            go_roundw
            case rel=>exact ⟨k+1,by go_num,by omega,hsn',hf.trans f1 zr⟩
            case measure=>simp [intOf];omega
          ·
           obtain rfl:n_hist=k:=by omega
           have hpa:x.hist.all (fun y=>y.f.named)=true:=by have h:=hh.out;rw [Al3 (by rw [hn_hist.out];omega)] at h;exact h
           replace hfin:Hid (LB=(x.boxes.all Bx.may)):=by show _=_;rw [hfin.out,hpa];rfl
           clear hpa hh rhist hn_hist hlt hk
           have cb:=hf.cell c22 zq
           have kb:=Lib.hid (Ql w.heap.size n_boxes x.boxesC x.boxesA x.boxes wr hn_boxes (rboxes.fr hf zr) lboxes)
           rw [← hfin.out] at kb
           clear hfin
           go_wp2_with (go_at_call 155;(with_reducible refine kb.out.mono ?_);rintro _ w2 ⟨rfl,f2⟩)
           go_ret
           exact ⟨rfl,(f0.trans hf zr).trans f2 zr⟩
def OpL.numsR (x:OpL):Bool:=(inR x.by_ 1 12&&inR x.sq 1 2147483647&&inR x.at_ 0 2147483647)&&(
 bif (x.kind==1) then inR x.need 0 20 else
 bif (x.kind==2) then (inR x.dev 1 12&&inR x.role 1 3) else
 bif (x.kind==3) then ((inR x.dev 1 12&&(x.mem==0))||((x.dev==0)&&inR x.mem 1 8)) else
 bif (x.kind==5) then (inR x.mem 1 8&&inR x.role 1 3) else
 bif (x.kind==6) then (x.epoch.named&&inR x.n 0 2147483647) else
 bif (x.kind==9) then (inR x.need 1 x.guards.length&&inR x.wait 0 2147483647&&Ay x.pub) else
 bif (x.kind==11) then (x.of.named&&inR x.dev 1 12) else
 bif (x.kind==13) then (x.of.named&&inR x.dev 1 12&&inR x.old 1 12) else
 bif (x.kind==4) then true else
 x.of.named)
theorem Y9 (x:OpL) (w:World):Calls Tryz.prog 110 #[.agg x.cells] w (Af x.numsR w):=by
 have hb0:=Blk.new w 44 x.cells
 have fz:Fr Non w (w.alloc (.cells x.cells 44)):=(Fr.refl Non w).alloc _
 have c0:(w.alloc (.cells x.cells 44)).cell? ⟨w.heap.size,0,none⟩=some (.int .i64 x.by_):=hb0.cell 0
 have c1:(w.alloc (.cells x.cells 44)).cell? ⟨w.heap.size,1,none⟩=some (.int .i64 x.sq):=hb0.cell 1
 have c2:(w.alloc (.cells x.cells 44)).cell? ⟨w.heap.size,2,none⟩=some (.int .i64 x.kind):=hb0.cell 2
 have c3:(w.alloc (.cells x.cells 44)).cell? ⟨w.heap.size,3,none⟩=some (.int .i64 x.at_):=hb0.cell 3
 have c5:(w.alloc (.cells x.cells 44)).cell? ⟨w.heap.size,5,none⟩=some (.int .i64 x.dev):=hb0.cell 5
 have c6:(w.alloc (.cells x.cells 44)).cell? ⟨w.heap.size,6,none⟩=some (.int .i64 x.old):=hb0.cell 6
 have c7:(w.alloc (.cells x.cells 44)).cell? ⟨w.heap.size,7,none⟩=some (.int .i64 x.mem):=hb0.cell 7
 have c8:(w.alloc (.cells x.cells 44)).cell? ⟨w.heap.size,8,none⟩=some (.int .i64 x.role):=hb0.cell 8
 have c10:(w.alloc (.cells x.cells 44)).cell? ⟨w.heap.size,10,none⟩=some (.int .i64 x.epoch.b):=hb0.cell 10
 have c11:(w.alloc (.cells x.cells 44)).cell? ⟨w.heap.size,11,none⟩=some (.int .i64 x.epoch.s):=hb0.cell 11
 have c12:(w.alloc (.cells x.cells 44)).cell? ⟨w.heap.size,12,none⟩=some (.int .u64 (x.epoch.u:Int)):=hb0.cell 12
 have c13:(w.alloc (.cells x.cells 44)).cell? ⟨w.heap.size,13,none⟩=some (.int .i64 x.n):=hb0.cell 13
 have c16:(w.alloc (.cells x.cells 44)).cell? ⟨w.heap.size,16,none⟩=some (.int .i64 x.of.b):=hb0.cell 16
 have c17:(w.alloc (.cells x.cells 44)).cell? ⟨w.heap.size,17,none⟩=some (.int .i64 x.of.s):=hb0.cell 17
 have c18:(w.alloc (.cells x.cells 44)).cell? ⟨w.heap.size,18,none⟩=some (.int .u64 (x.of.u:Int)):=hb0.cell 18
 have c19:(w.alloc (.cells x.cells 44)).cell? ⟨w.heap.size,19,none⟩=some (.slice x.guardsA x.guards.length x.guardsC):=hb0.cell 19
 have c20:(w.alloc (.cells x.cells 44)).cell? ⟨w.heap.size,20,none⟩=some (.int .i64 x.need):=hb0.cell 20
 have c21:(w.alloc (.cells x.cells 44)).cell? ⟨w.heap.size,21,none⟩=some (.int .i64 x.wait):=hb0.cell 21
 have c23:(w.alloc (.cells x.cells 44)).cell? ⟨w.heap.size,23,none⟩=some (.int .u64 (x.pub:Int)):=hb0.cell 23
 generalize x.cells=CS at*
 clear hb0
 have hfin:Hid (x.numsR=x.numsR):=rfl
 have hdef:Hid (x.numsR=((inR x.by_ 1 12&&inR x.sq 1 2147483647&&inR x.at_ 0 2147483647)&&(
 bif (x.kind==1) then inR x.need 0 20 else
 bif (x.kind==2) then (inR x.dev 1 12&&inR x.role 1 3) else
 bif (x.kind==3) then ((inR x.dev 1 12&&(x.mem==0))||((x.dev==0)&&inR x.mem 1 8)) else
 bif (x.kind==5) then (inR x.mem 1 8&&inR x.role 1 3) else
 bif (x.kind==6) then (x.epoch.named&&inR x.n 0 2147483647) else
 bif (x.kind==9) then (inR x.need 1 x.guards.length&&inR x.wait 0 2147483647&&Ay x.pub) else
 bif (x.kind==11) then (x.of.named&&inR x.dev 1 12) else
 bif (x.kind==13) then (x.of.named&&inR x.dev 1 12&&inR x.old 1 12) else
 bif (x.kind==4) then true else
 x.of.named))):=rfl
 generalize hLB:x.numsR=LB at*
 clear hLB hfin
 rcases zb (inR x.by_ 1 12) with t1|t1
 focus
  rcases zb (inR x.sq 1 2147483647) with t2|t2
  focus
   rcases zb (inR x.at_ 0 2147483647) with t3|t3
   focus
    rcases zb (x.kind==1) with t4|t4
    focus
     have t4n:(x.kind !=1)=false:=by rw [bne,t4];rfl
     rcases zb (inR x.need 0 20) with t5|t5
     focus
      have hv:Hid (true=LB):=by show _=_;rw [hdef.out];simp [t1,t2,t3,t4,t5]
     rotate_left
     focus
      have hv:Hid (false=LB):=by show _=_;rw [hdef.out];simp [t1,t2,t3,t4,t5]
    rotate_left 2
    focus
     have t4n:(x.kind !=1)=true:=by rw [bne,t4];rfl
     rcases zb (x.kind==2) with t6|t6
     focus
      have t6n:(x.kind !=2)=false:=by rw [bne,t6];rfl
      rcases zb (inR x.dev 1 12) with t7|t7
      focus
       rcases zb (inR x.role 1 3) with t8|t8
       focus
        have hv:Hid (true=LB):=by show _=_;rw [hdef.out];simp [t1,t2,t3,t4,t6,t7,t8]
       rotate_left
       focus
        have hv:Hid (false=LB):=by show _=_;rw [hdef.out];simp [t1,t2,t3,t4,t6,t7,t8]
      rotate_left 2
      focus
       have hv:Hid (false=LB):=by show _=_;rw [hdef.out];simp [t1,t2,t3,t4,t6,t7]
     rotate_left 3
     focus
      have t6n:(x.kind !=2)=true:=by rw [bne,t6];rfl
      rcases zb (x.kind==3) with t9|t9
      focus
       have t9n:(x.kind !=3)=false:=by rw [bne,t9];rfl
       rcases zb (inR x.dev 1 12) with t10|t10
       focus
        rcases zb (x.mem==0) with t11|t11
        focus
         have hv:Hid (true=LB):=by show _=_;rw [hdef.out];simp [t1,t2,t3,t4,t6,t9,t10,t11]
        rotate_left
        focus
         rcases zb (x.dev==0) with t12|t12
         focus
          rcases zb (inR x.mem 1 8) with t13|t13
          focus
           have hv:Hid (true=LB):=by show _=_;rw [hdef.out];simp [t1,t2,t3,t4,t6,t9,t10,t11,t12,t13]
          rotate_left
          focus
           have hv:Hid (false=LB):=by show _=_;rw [hdef.out];simp [t1,t2,t3,t4,t6,t9,t10,t11,t12,t13]
         rotate_left 2
         focus
          have hv:Hid (false=LB):=by show _=_;rw [hdef.out];simp [t1,t2,t3,t4,t6,t9,t10,t11,t12]
       rotate_left 4
       focus
        rcases zb (x.dev==0) with t14|t14
        focus
         rcases zb (inR x.mem 1 8) with t15|t15
         focus
          have hv:Hid (true=LB):=by show _=_;rw [hdef.out];simp [t1,t2,t3,t4,t6,t9,t10,t14,t15]
         rotate_left
         focus
          have hv:Hid (false=LB):=by show _=_;rw [hdef.out];simp [t1,t2,t3,t4,t6,t9,t10,t14,t15]
        rotate_left 2
        focus
         have hv:Hid (false=LB):=by show _=_;rw [hdef.out];simp [t1,t2,t3,t4,t6,t9,t10,t14]
      rotate_left 7
      focus
       have t9n:(x.kind !=3)=true:=by rw [bne,t9];rfl
       rcases zb (x.kind==5) with t16|t16
       focus
        have t16n:(x.kind !=5)=false:=by rw [bne,t16];rfl
        rcases zb (inR x.mem 1 8) with t17|t17
        focus
         rcases zb (inR x.role 1 3) with t18|t18
         focus
          have hv:Hid (true=LB):=by show _=_;rw [hdef.out];simp [t1,t2,t3,t4,t6,t9,t16,t17,t18]
         rotate_left
         focus
          have hv:Hid (false=LB):=by show _=_;rw [hdef.out];simp [t1,t2,t3,t4,t6,t9,t16,t17,t18]
        rotate_left 2
        focus
         have hv:Hid (false=LB):=by show _=_;rw [hdef.out];simp [t1,t2,t3,t4,t6,t9,t16,t17]
       rotate_left 3
       focus
        have t16n:(x.kind !=5)=true:=by rw [bne,t16];rfl
        rcases zb (x.kind==6) with t19|t19
        focus
         have t19n:(x.kind !=6)=false:=by rw [bne,t19];rfl
         rcases zb (x.epoch.named) with t20|t20
         focus
          rcases zb (inR x.n 0 2147483647) with t21|t21
          focus
           have hv:Hid (true=LB):=by show _=_;rw [hdef.out];simp [t1,t2,t3,t4,t6,t9,t16,t19,t20,t21]
          rotate_left
          focus
           have hv:Hid (false=LB):=by show _=_;rw [hdef.out];simp [t1,t2,t3,t4,t6,t9,t16,t19,t20,t21]
         rotate_left 2
         focus
          have hv:Hid (false=LB):=by show _=_;rw [hdef.out];simp [t1,t2,t3,t4,t6,t9,t16,t19,t20]
        rotate_left 3
        focus
         have t19n:(x.kind !=6)=true:=by rw [bne,t19];rfl
         rcases zb (x.kind==9) with t22|t22
         focus
          have t22n:(x.kind !=9)=false:=by rw [bne,t22];rfl
          rcases zb (inR x.need 1 x.guards.length) with t23|t23
          focus
           rcases zb (inR x.wait 0 2147483647) with t24|t24
           focus
            rcases zb (Ay x.pub) with t25|t25
            focus
             have hv:Hid (true=LB):=by show _=_;rw [hdef.out];simp [t1,t2,t3,t4,t6,t9,t16,t19,t22,t23,t24,t25]
            rotate_left
            focus
             have hv:Hid (false=LB):=by show _=_;rw [hdef.out];simp [t1,t2,t3,t4,t6,t9,t16,t19,t22,t23,t24,t25]
           rotate_left 2
           focus
            have hv:Hid (false=LB):=by show _=_;rw [hdef.out];simp [t1,t2,t3,t4,t6,t9,t16,t19,t22,t23,t24]
          rotate_left 3
          focus
           have hv:Hid (false=LB):=by show _=_;rw [hdef.out];simp [t1,t2,t3,t4,t6,t9,t16,t19,t22,t23]
         rotate_left 4
         focus
          have t22n:(x.kind !=9)=true:=by rw [bne,t22];rfl
          rcases zb (x.kind==11) with t26|t26
          focus
           have t26n:(x.kind !=11)=false:=by rw [bne,t26];rfl
           rcases zb (x.of.named) with t27|t27
           focus
            rcases zb (inR x.dev 1 12) with t28|t28
            focus
             have hv:Hid (true=LB):=by show _=_;rw [hdef.out];simp [t1,t2,t3,t4,t6,t9,t16,t19,t22,t26,t27,t28]
            rotate_left
            focus
             have hv:Hid (false=LB):=by show _=_;rw [hdef.out];simp [t1,t2,t3,t4,t6,t9,t16,t19,t22,t26,t27,t28]
           rotate_left 2
           focus
            have hv:Hid (false=LB):=by show _=_;rw [hdef.out];simp [t1,t2,t3,t4,t6,t9,t16,t19,t22,t26,t27]
          rotate_left 3
          focus
           have t26n:(x.kind !=11)=true:=by rw [bne,t26];rfl
           rcases zb (x.kind==13) with t29|t29
           focus
            have t29n:(x.kind !=13)=false:=by rw [bne,t29];rfl
            rcases zb (x.of.named) with t30|t30
            focus
             rcases zb (inR x.dev 1 12) with t31|t31
             focus
              rcases zb (inR x.old 1 12) with t32|t32
              focus
               have hv:Hid (true=LB):=by show _=_;rw [hdef.out];simp [t1,t2,t3,t4,t6,t9,t16,t19,t22,t26,t29,t30,t31,t32]
              rotate_left
              focus
               have hv:Hid (false=LB):=by show _=_;rw [hdef.out];simp [t1,t2,t3,t4,t6,t9,t16,t19,t22,t26,t29,t30,t31,t32]
             rotate_left 2
             focus
              have hv:Hid (false=LB):=by show _=_;rw [hdef.out];simp [t1,t2,t3,t4,t6,t9,t16,t19,t22,t26,t29,t30,t31]
            rotate_left 3
            focus
             have hv:Hid (false=LB):=by show _=_;rw [hdef.out];simp [t1,t2,t3,t4,t6,t9,t16,t19,t22,t26,t29,t30]
           rotate_left 4
           focus
            have t29n:(x.kind !=13)=true:=by rw [bne,t29];rfl
            rcases zb (x.kind==4) with t33|t33
            focus
             have t33n:(x.kind !=4)=false:=by rw [bne,t33];rfl
             have hv:Hid (true=LB):=by show _=_;rw [hdef.out];simp [t1,t2,t3,t4,t6,t9,t16,t19,t22,t26,t29,t33]
            rotate_left
            focus
             have t33n:(x.kind !=4)=true:=by rw [bne,t33];rfl
             rcases zb (x.of.named) with t34|t34
             focus
              have hv:Hid (true=LB):=by show _=_;rw [hdef.out];simp [t1,t2,t3,t4,t6,t9,t16,t19,t22,t26,t29,t33,t34]
             rotate_left
             focus
              have hv:Hid (false=LB):=by show _=_;rw [hdef.out];simp [t1,t2,t3,t4,t6,t9,t16,t19,t22,t26,t29,t33,t34]
   rotate_left 32
   focus
    have hv:Hid (false=LB):=by show _=_;rw [hdef.out];simp [t1,t2,t3]
  rotate_left 33
  focus
   have hv:Hid (false=LB):=by show _=_;rw [hdef.out];simp [t1,t2]
 rotate_left 34
 focus
  have hv:Hid (false=LB):=by show _=_;rw [hdef.out];simp [t1]
 all_goals
  clear hdef
  go_enter Tryz.func110,Tryz.ntmps110
  go_wp2_with (first|(go_at_call 151;(with_reducible refine (Ga _ _ _ _).mono ?_);rintro _ v ⟨rfl,f⟩;have fz:=fz.trans f zr;have c0:=f.cell c0 zq;have c1:=f.cell c1 zq;have c2:=f.cell c2 zq;have c3:=f.cell c3 zq;have c5:=f.cell c5 zq;have c6:=f.cell c6 zq;have c7:=f.cell c7 zq;have c8:=f.cell c8 zq;have c10:=f.cell c10 zq;have c11:=f.cell c11 zq;have c12:=f.cell c12 zq;have c13:=f.cell c13 zq;have c16:=f.cell c16 zq;have c17:=f.cell c17 zq;have c18:=f.cell c18 zq;have c19:=f.cell c19 zq;have c20:=f.cell c20 zq;have c21:=f.cell c21 zq;have c23:=f.cell c23 zq)|(go_at_call 152;(with_reducible refine (Lb _ _).mono ?_);rintro _ v ⟨rfl,f⟩;have fz:=fz.trans f zr;have c0:=f.cell c0 zq;have c1:=f.cell c1 zq;have c2:=f.cell c2 zq;have c3:=f.cell c3 zq;have c5:=f.cell c5 zq;have c6:=f.cell c6 zq;have c7:=f.cell c7 zq;have c8:=f.cell c8 zq;have c10:=f.cell c10 zq;have c11:=f.cell c11 zq;have c12:=f.cell c12 zq;have c13:=f.cell c13 zq;have c16:=f.cell c16 zq;have c17:=f.cell c17 zq;have c18:=f.cell c18 zq;have c19:=f.cell c19 zq;have c20:=f.cell c20 zq;have c21:=f.cell c21 zq;have c23:=f.cell c23 zq)|(go_at_call 153;(with_reducible refine (Ip _ _).mono ?_);rintro _ v ⟨rfl,f⟩;have fz:=fz.trans f zr;have c0:=f.cell c0 zq;have c1:=f.cell c1 zq;have c2:=f.cell c2 zq;have c3:=f.cell c3 zq;have c5:=f.cell c5 zq;have c6:=f.cell c6 zq;have c7:=f.cell c7 zq;have c8:=f.cell c8 zq;have c10:=f.cell c10 zq;have c11:=f.cell c11 zq;have c12:=f.cell c12 zq;have c13:=f.cell c13 zq;have c16:=f.cell c16 zq;have c17:=f.cell c17 zq;have c18:=f.cell c18 zq;have c19:=f.cell c19 zq;have c20:=f.cell c20 zq;have c21:=f.cell c21 zq;have c23:=f.cell c23 zq))
  go_ret
  exact ⟨congrArg (fun z=>Ending.returned (.bool z)) hv.out,fz⟩
end Oq
end
end Go.Proofs.YtafonabghnogaaaGreatDoor
