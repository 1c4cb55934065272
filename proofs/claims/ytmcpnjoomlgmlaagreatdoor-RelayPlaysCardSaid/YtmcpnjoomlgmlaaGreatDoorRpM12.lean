/- Contracts of functions, walked (part 12).
Conditions: as each theorem says. -/
import Derived.Shelf.SlSortCmp.InsertionK
import Derived.Test.YtmcpnjoomlgmlaaGreatDoorRpM9
import Derived.Test.YtmcpnjoomlgmlaaGreatDoorRpM11
set_option maxRecDepth 100000
set_option maxHeartbeats 16000000
open Array renaming length_toList->A73,getElem?_append_left->A75,getElem?_modify->A76
open Bool renaming eq_iff_iff->A59,and_assoc->A60,not_false->A63,not_true->A64,not_not->A66,and_eq_true->A68,eq_false_or_eq_true->A71
open List renaming length_map->A61,getElem?_eq_getElem->A62,take_succ_cons->A65,take_of_length_le->A69,getElem?_map->A70,length_take->A72,getElem?_take_of_lt->A74
open Nat renaming ne_of_lt->A67
open Go.Proofs.Tryz
open Go.Proofs.Tryz renaming prog->zp
open Go.Lib renaming hid->lh
open List renaming set->zl
open Go.Ending renaming returned->ze
namespace Go.Proofs.YtmcpnjoomlgmlaaGreatDoor
open Go.RowKit
attribute [local go_sem ↓] Go.wp_at_zero Go.wp_at_succ
namespace Oq
def kindsN:List Nat:=[0,2064,32793,21,16,12,480,640,512,31744,8704,8705,512,33299]
theorem Am2:∀k,k<14->kindsN.getD k 0<65536:=by decide
def Bm (k:Int) (j:Nat):Bool:=match j with
 |0=>k==2||k==3||k==11||k==13
 |1=>k==13
 |2=>k==3||k==5
 |3=>k==2||k==5
 |4=>Hn k
 |5=>k==6
 |6=>k==6
 |7=>k==6||k==7
 |8=>k==6
 |9=>G9 k
 |10=>k==9
 |11=>k==9||k==1
 |12=>k==9
 |13=>k==9||k==10||k==11
 |14=>k==9
 |15=>k==2||k==13
 |_=>false
theorem Tp:∀k,k<14->1<=k->∀j,j<16->(kindsN.getD k 0).testBit j=Bm (k:Int) j:=by decide+kernel
theorem Am3 (x:OpL):x.op.bareB=((!x.presB 0||Bm x.kind 0)&&(!x.presB 1||Bm x.kind 1)&&(!x.presB 2||Bm x.kind 2)&&(!x.presB 3||Bm x.kind 3)&&(!x.presB 4||Bm x.kind 4)&&(!x.presB 5||Bm x.kind 5)&&(!x.presB 6||Bm x.kind 6)&&(!x.presB 8||Bm x.kind 8)&&(!x.presB 7||Bm x.kind 7)&&(!x.presB 9||Bm x.kind 9)&&(!x.presB 10||Bm x.kind 10)&&(!x.presB 12||Bm x.kind 12)&&(!x.presB 14||Bm x.kind 14)&&(!x.presB 11||Bm x.kind 11)&&(!x.presB 13||Bm x.kind 13)&&(!x.presB 15||Bm x.kind 15)):=by
 have e:∀{α:Type} (l:List α),l.isEmpty=!decide (0<l.length):=fun l=>by cases l<;>simp
 have n:∀a:Int,(a==0)=!(a !=0):=fun a=>by rw [bne,A66]
 have z:(x.pub==0)=!((x.pub:Int) !=0):=by rw [bne,A66,A59];simp
 have i:∀y:Id,Id.eq y Id.zero=!(!Id.eq y Id.zero):=fun y=>by rw [A66]
 unfold Op.bareB
 rw [show x.op.dev=x.dev from rfl,show x.op.old=x.old from rfl,show x.op.mem=x.mem from rfl,show x.op.role=x.role from rfl,show x.op.path=x.path.map NdL.nd from rfl,show x.op.epoch=x.epoch from rfl,show x.op.n=x.n from rfl,show x.op.refs=x.refs from rfl,show x.op.body=x.body from rfl,show x.op.of=x.of from rfl,show x.op.guards=x.guards from rfl,show x.op.wait=x.wait from rfl,show x.op.pub=x.pub from rfl,show x.op.need=x.need from rfl,show x.op.boxes=x.boxes from rfl,show x.op.hist=x.hist.map SlL.sl from rfl,show x.op.kind=x.kind from rfl,
  e (x.path.map NdL.nd),e (x.hist.map SlL.sl),A61,A61,e x.refs,e x.body,e x.guards,e x.boxes,n x.dev,n x.old,n x.mem,n x.role,n x.n,n x.wait,n x.need,z,i x.epoch,i x.of]
 simp only [OpL.presB,Bm,Bool.or_assoc]
theorem Am4 (x:OpL) (k:Nat) (hk:x.kind=(k:Int)) (h1:1<=k) (h2:k<14):(∀j,x.presB j=true->(kindsN.getD k 0).testBit j=true)<->x.op.bareB=true:=by
 rw [Am3,hk];have ha:=Tp k h2 h1
 have key:∀j,j<16->((!x.presB j||Bm (k:Int) j)=true<->(x.presB j=true->(kindsN.getD k 0).testBit j=true)):=fun j hj=>by
  rw [ha j hj]
  cases x.presB j<;>simp
 simp only [A68];rw [key 0 (by decide),key 1 (by decide),key 2 (by decide),key 3 (by decide),key 4 (by decide),key 5 (by decide),key 6 (by decide),key 7 (by decide),key 8 (by decide),key 9 (by decide),key 10 (by decide),key 11 (by decide),key 12 (by decide),key 13 (by decide),key 14 (by decide),key 15 (by decide)];constructor
 ·
  intro h;exact ⟨⟨⟨⟨⟨⟨⟨⟨⟨⟨⟨⟨⟨⟨⟨h 0,h 1⟩,h 2⟩,h 3⟩,h 4⟩,h 5⟩,h 6⟩,h 8⟩,h 7⟩,h 9⟩,h 10⟩,h 12⟩,h 14⟩,h 11⟩,h 13⟩,h 15⟩
 ·
  rintro ⟨⟨⟨⟨⟨⟨⟨⟨⟨⟨⟨⟨⟨⟨⟨a0,a1⟩,a2⟩,a3⟩,a4⟩,a5⟩,a6⟩,a8⟩,a7⟩,a9⟩,a10⟩,a12⟩,a14⟩,a11⟩,a13⟩,a15⟩ j hj
  match j,hj with
  |0,hj=>exact a0 hj
  |1,hj=>exact a1 hj
  |2,hj=>exact a2 hj
  |3,hj=>exact a3 hj
  |4,hj=>exact a4 hj
  |5,hj=>exact a5 hj
  |6,hj=>exact a6 hj
  |7,hj=>exact a7 hj
  |8,hj=>exact a8 hj
  |9,hj=>exact a9 hj
  |10,hj=>exact a10 hj
  |11,hj=>exact a11 hj
  |12,hj=>exact a12 hj
  |13,hj=>exact a13 hj
  |14,hj=>exact a14 hj
  |15,hj=>exact a15 hj
  |n+16,hj=>rw [N1 x (n+16) (by omega)] at hj;cases hj
theorem Am5 (x:OpL):x.itemsL=x.op.itemsB:=by
 unfold Op.itemsB OpL.itemsL;rw [show x.op.guards=x.guards from rfl,show x.op.refs=x.refs from rfl,show x.op.past=x.past from rfl,show x.op.path=x.path.map NdL.nd from rfl,show x.op.boxes=x.boxes from rfl,show x.op.hist=x.hist.map SlL.sl from rfl,List.all_map,List.all_map];simp only [A60];rfl
theorem Am6 (x:OpL) (k:Nat) (h1:1<=k) (h2:k<14):x.loopB (kindsN.getD k 0)=((!Bm k 0||x.mayB 0)&&((!Bm k 1||x.mayB 1)&&((!Bm k 2||x.mayB 2)&&((!Bm k 3||x.mayB 3)&&((!Bm k 5||x.mayB 5)&&((!Bm k 6||x.mayB 6)&&((!Bm k 9||x.mayB 9)&&((!Bm k 11||x.mayB 11)&&((!Bm k 12||x.mayB 12)&&(!Bm k 14||x.mayB 14)))))))))):=by
 have ha:=Tp k h2 h1;unfold OpL.loopB;rw [show List.range 16=[0,1,2,3,4,5,6,7,8,9,10,11,12,13,14,15] from rfl];simp only [List.all_cons,List.all_nil]
 rw [ha 0 (by decide),ha 1 (by decide),ha 2 (by decide),ha 3 (by decide),ha 5 (by decide),ha 6 (by decide),ha 9 (by decide),ha 11 (by decide),ha 12 (by decide),ha 14 (by decide),
  show x.mayB 4=true from rfl,show x.mayB 7=true from rfl,show x.mayB 8=true from rfl,show x.mayB 10=true from rfl,show x.mayB 13=true from rfl,show x.mayB 15=true from rfl]
 simp only [Bool.or_true,Bool.true_and,Bool.and_true]
theorem Am7 (x:OpL) (k:Nat) (hk:x.kind=(k:Int)) (h1:1<=k) (h2:k<14):x.rngB (kindsN.getD k 0)=(x.op.numsB&&x.op.itemsB):=by
 have hl:=Am6 x k h1 h2;unfold OpL.rngB;rw [Am5,hl];generalize x.op.itemsB=it;unfold Op.numsB;rw [show x.op.by_=x.by_ from rfl,show x.op.sq=x.sq from rfl,show x.op.at_=x.at_ from rfl,show x.op.kind=x.kind from rfl,show x.op.need=x.need from rfl,show x.op.dev=x.dev from rfl,show x.op.role=x.role from rfl,show x.op.mem=x.mem from rfl,show x.op.epoch=x.epoch from rfl,show x.op.n=x.n from rfl,show x.op.wait=x.wait from rfl,show x.op.pub=x.pub from rfl,show x.op.of=x.of from rfl,show x.op.old=x.old from rfl,show x.op.guards=x.guards from rfl,hk];generalize inR x.by_ 1 12=c1;generalize inR x.sq 1 2147483647=c2;generalize inR x.at_ 0 2147483647=c3;have hkk:k=1\/k=2\/k=3\/k=4\/k=5\/k=6\/k=7\/k=8\/k=9\/k=10\/k=11\/k=12\/k=13:=by omega
 rcases hkk with rfl|rfl|rfl|rfl|rfl|rfl|rfl|rfl|rfl|rfl|rfl|rfl|rfl
 case inr.inr.inl=>
  have e3:(x.mayB 0&&x.mayB 2)=((inR x.dev 1 12&&x.mem==0)||(x.dev==0&&inR x.mem 1 8)):=by
   simp only [OpL.mayB,OpL.ls,OpL.mb,hk];rw [A59];simp [inR];omega
  simp [Bm,G9];rw [e3];simp [A60]
 case inr.inr.inr.inr.inr.inr.inr.inr.inr.inr.inl=>
  simp [Bm,G9,OpL.mayB,OpL.ls,hk,A60]
  ac_rfl
 case inr.inr.inr.inr.inr.inr.inr.inr.inr.inr.inr.inr=>
  simp [Bm,G9,OpL.mayB,OpL.ls,hk,A60]
  ac_rfl
 all_goals
  simp [Bm,G9,OpL.mayB,OpL.ls,OpL.mb,OpL.nd,OpL.mo,hk,A60]
end Oq
namespace Oq
attribute [local go_sem] A63 A64
theorem Tq {α:Type} (l:List α) (p q:α->Bool) (h:∀x,q x=!p x):l.any q=!l.all p:=by
 induction l with
 |nil=>rfl
 |cons x r ih=>rw [List.any_cons,List.all_cons,ih,h];cases p x<;>simp
theorem Am8 (x:OpL):x.op.longB=(decide ((12:Int)<x.past.length)||decide ((5:Int)<x.path.length)|| !(x.path.all fun y=>decide (y.xs.length<=12))||decide ((208:Int)<x.body.length)||decide ((8:Int)<x.refs.length)||decide ((20:Int)<x.hist.length)|| !(x.hist.all fun y=>decide (y.y.length<=208))||decide ((6:Int)<x.guards.length)||
  (if x.kind=7 then !(inR x.body.length 1 20) else if x.kind=9 then ((x.boxes.length:Int) !=x.guards.length) else if x.kind=10 then !(inR x.boxes.length 1 6) else if x.kind=11 then ((x.boxes.length:Int) !=1) else false)):=by
 have e1:(x.path.map NdL.nd).any (fun y=>decide (12<y.xs.length))=!(x.path.all fun y=>decide (y.xs.length<=12)):=by
  rw [List.any_map];exact Tq _ _ _ (fun y=>by show decide (12<y.xs.length)=_;rw [A59];simp)
 have e2:(x.hist.map SlL.sl).any (fun y=>decide (208<y.y.length))=!(x.hist.all fun y=>decide (y.y.length<=208)):=by
  rw [List.any_map];exact Tq _ _ _ (fun y=>by show decide (208<y.y.length)=_;rw [A59];simp)
 have k:∀(m n:Nat),decide ((m:Int)<(n:Int))=decide (m<n):=fun m n=>by rw [A59];simp
 have k1:=k 12 x.past.length;have k2:=k 5 x.path.length;have k3:=k 208 x.body.length;have k4:=k 8 x.refs.length;have k5:=k 20 x.hist.length;have k6:=k 6 x.guards.length
 have e3:(if x.kind=7 then !(decide (1<=x.body.length)&&decide (x.body.length<=20)) else if x.kind=9 then decide (x.boxes.length≠x.guards.length) else if x.kind=10 then !(decide (1<=x.boxes.length)&&decide (x.boxes.length<=6)) else if x.kind=11 then decide (x.boxes.length≠1) else false)=
   (if x.kind=7 then !(inR x.body.length 1 20) else if x.kind=9 then ((x.boxes.length:Int) !=x.guards.length) else if x.kind=10 then !(inR x.boxes.length 1 6) else if x.kind=11 then ((x.boxes.length:Int) !=1) else false):=by
  have kl:∀(m n:Nat),decide ((m:Int)<=(n:Int))=decide (m<=n):=fun m n=>by rw [A59];simp
  have r1:inR (x.body.length:Int) 1 20=(decide (1<=x.body.length)&&decide (x.body.length<=20)):=by
   unfold inR;rw [show decide ((1:Int)<=(x.body.length:Int))=decide (1<=x.body.length) from kl 1 _,show decide ((x.body.length:Int)<=20)=decide (x.body.length<=20) from kl _ 20]
  have r2:inR (x.boxes.length:Int) 1 6=(decide (1<=x.boxes.length)&&decide (x.boxes.length<=6)):=by
   unfold inR;rw [show decide ((1:Int)<=(x.boxes.length:Int))=decide (1<=x.boxes.length) from kl 1 _,show decide ((x.boxes.length:Int)<=6)=decide (x.boxes.length<=6) from kl _ 6]
  have r3:((x.boxes.length:Int) !=x.guards.length)=decide (x.boxes.length≠x.guards.length):=by rw [A59];simp;omega
  have r4:((x.boxes.length:Int) !=1)=decide (x.boxes.length≠1):=by rw [A59];simp;omega
  rw [r1,r2,r3,r4]
 rw [<- e3];rw [show ((12:Int))=((12:Nat):Int) from rfl,show ((5:Int))=((5:Nat):Int) from rfl,show ((208:Int))=((208:Nat):Int) from rfl,show ((8:Int))=((8:Nat):Int) from rfl,show ((6:Int))=((6:Nat):Int) from rfl,k1,k2,k3,k4,k6,show decide ((20:Int)<(x.hist.length:Int))=decide (20<x.hist.length) from k5];unfold Op.longB;simp only [OpL.op,e1,e2,A61];clear e1 e2 e3 k k1 k2 k3 k4 k5 k6;generalize (x.path.all fun y=>decide (y.xs.length<=12))=a7;generalize (x.hist.all fun y=>decide (y.y.length<=208))=a8
 by_cases h1:12<x.past.length
 · simp [h1]
 by_cases h2:5<x.path.length
 · simp [h1,h2]
 by_cases h3:208<x.body.length
 · simp [h1,h2,h3]
 by_cases h4:8<x.refs.length
 · simp [h1,h2,h3,h4]
 by_cases h5:20<x.hist.length
 · simp [h1,h2,h3,h4,h5]
 by_cases h6:6<x.guards.length
 · simp [h1,h2,h3,h4,h5,h6]
 cases a7<;>cases a8<;>(first|(simp [h1,h2,h3,h4,h5,h6];done)|(by_cases b1:x.boxes.length=x.guards.length<;>by_cases b2:x.boxes.length=1<;>simp [h1,h2,h3,h4,h5,h6,b1,b2]<;>rfl))
theorem Am9 (x:OpL) (w:World) (hat:x.at w w.heap.size) (hok:x.op.ok):Calls zp 147 #[.agg x.cells] w (Ae x.op.longB w):=by
 have a5:=Blk.new w 52 x.cells;have f0:Fr Non w (w.alloc (.cells x.cells 52)):=(Fr.refl Non w).alloc _;have c2:cI (w.alloc (.cells x.cells 52)) w.heap.size 2 x.kind:=a5.cell 2;have c4:cS (w.alloc (.cells x.cells 52)) w.heap.size 4 x.pastA x.past.length x.pastC:=a5.cell 4;have c9:cS (w.alloc (.cells x.cells 52)) w.heap.size 9 x.pathA x.path.length x.pathC:=a5.cell 9;have a3:cS (w.alloc (.cells x.cells 52)) w.heap.size 14 x.bodyA x.body.length x.bodyC:=a5.cell 14;have ay:cS (w.alloc (.cells x.cells 52)) w.heap.size 15 x.refsA x.refs.length x.refsC:=a5.cell 15;have a1:cS (w.alloc (.cells x.cells 52)) w.heap.size 19 x.guardsA x.guards.length x.guardsC:=a5.cell 19;have a4:cS (w.alloc (.cells x.cells 52)) w.heap.size 22 x.boxesA x.boxes.length x.boxesC:=a5.cell 22;have a2:cS (w.alloc (.cells x.cells 52)) w.heap.size 24 x.histA x.hist.length x.histC:=a5.cell 24;have a6:x.path.length<=1000000:=by have h:=hok.path.1;rw [show x.op.path=x.path.map NdL.nd from rfl,A61] at h;omega
 have a7:x.hist.length<=1000000:=by have h:=hok.hist.1;rw [show x.op.hist=x.hist.map SlL.sl from rfl,A61] at h;omega
 have kA:=lh (fun (w':World) (h:Fr Non w w')=>Ak6 w.heap.size x.path.length x.pathC x.pathA x.path (fun y=>decide (y.xs.length<=12)) w' rfl (hat.path.1.fr h zr) a6 (fun y _ w'' _=>Al6 y w''));have kB:=lh (fun (w':World) (h:Fr Non w w')=>Al2 w.heap.size x.hist.length x.histC x.histA x.hist (fun y=>decide (y.y.length<=208)) w' rfl (hat.hist.1.fr h zr) a7 (fun y _ w'' _=>Al5 y w''));have az:=lh (fun w'=>Eb x.body.length 1 20 w');have a0:=lh (fun w'=>Eb x.boxes.length 1 6 w');have af:=lh (Am8 x);generalize x.op.longB=LB at*;generalize (x.path.all fun y=>decide (y.xs.length<=12))=pa at*;generalize (x.hist.all fun y=>decide (y.y.length<=208))=ha at*;generalize inR (x.body.length:Int) 1 20=i7 at*;generalize inR (x.boxes.length:Int) 1 6=i10 at*;generalize x.past.length=n1 at*;generalize x.path.length=n2 at*;generalize x.body.length=n3 at*;generalize x.refs.length=n4 at*;generalize x.hist.length=n5 at*;generalize x.guards.length=n6 at*;generalize x.boxes.length=n7 at*;generalize x.kind=kd at*;generalize x.cells=CS at*;clear a5 hat hok a6 a7;have ba:True:=trivial
 rcases zb (decide ((12:Int)<n1)) with h1|h1
 ·
  have hv:Hid (true=LB):=by show _=_;rw [af.out];simp [h1]
  clear af;go_enter func147,ntmps147
  go_wp2_with (first
   |(go_at_call 188;(with_reducible refine (kA.out _ f0).mono ?_);rintro _ v1 ⟨rfl,f1⟩;obtain ⟨ag,ah,ai,aa,ab,ac,ad,ae⟩:=zk8 f1 c2 c4 c9 a3 ay a1 a4 a2;have ak:=f0.trans f1 zr)
   |(go_at_call 189;(with_reducible refine (kB.out _ ak).mono ?_);rintro _ v2 ⟨rfl,f2⟩;obtain ⟨aw,ax,av,ar,al,aq,ao,ap⟩:=zk8 f2 ag ah ai aa ab ac ad ae;have aj:=ak.trans f2 zr)
   |(go_at_call 176;(with_reducible refine (az.out _).mono ?_);rintro _ v3 ⟨rfl,f3⟩;have au:=aj.trans f3 zr)
   |(go_at_call 176;(with_reducible refine (a0.out _).mono ?_);rintro _ v3 ⟨rfl,f3⟩;have au:=aj.trans f3 zr))
  go_ret
  exact ⟨zeB hv.out,f0⟩
 rcases zb (decide ((5:Int)<n2)) with h2|h2
 ·
  have hv:Hid (true=LB):=by show _=_;rw [af.out];simp [h1,h2]
  clear af;go_enter func147,ntmps147
  go_wp2_with (first
   |(go_at_call 188;(with_reducible refine (kA.out _ f0).mono ?_);rintro _ v1 ⟨rfl,f1⟩;obtain ⟨ag,ah,ai,aa,ab,ac,ad,ae⟩:=zk8 f1 c2 c4 c9 a3 ay a1 a4 a2;have ak:=f0.trans f1 zr)
   |(go_at_call 189;(with_reducible refine (kB.out _ ak).mono ?_);rintro _ v2 ⟨rfl,f2⟩;obtain ⟨aw,ax,av,ar,al,aq,ao,ap⟩:=zk8 f2 ag ah ai aa ab ac ad ae;have aj:=ak.trans f2 zr)
   |(go_at_call 176;(with_reducible refine (az.out _).mono ?_);rintro _ v3 ⟨rfl,f3⟩;have au:=aj.trans f3 zr)
   |(go_at_call 176;(with_reducible refine (a0.out _).mono ?_);rintro _ v3 ⟨rfl,f3⟩;have au:=aj.trans f3 zr))
  go_ret
  exact ⟨zeB hv.out,f0⟩
 rcases zb pa with h3|h3
 rotate_left
 ·
  have hv:Hid (true=LB):=by show _=_;rw [af.out];simp [h1,h2,h3]
  subst h3;clear af;go_enter func147,ntmps147
  go_wp2_with (first
   |(go_at_call 188;(with_reducible refine (kA.out _ f0).mono ?_);rintro _ v1 ⟨rfl,f1⟩;obtain ⟨ag,ah,ai,aa,ab,ac,ad,ae⟩:=zk8 f1 c2 c4 c9 a3 ay a1 a4 a2;have ak:=f0.trans f1 zr)
   |(go_at_call 189;(with_reducible refine (kB.out _ ak).mono ?_);rintro _ v2 ⟨rfl,f2⟩;obtain ⟨aw,ax,av,ar,al,aq,ao,ap⟩:=zk8 f2 ag ah ai aa ab ac ad ae;have aj:=ak.trans f2 zr)
   |(go_at_call 176;(with_reducible refine (az.out _).mono ?_);rintro _ v3 ⟨rfl,f3⟩;have au:=aj.trans f3 zr)
   |(go_at_call 176;(with_reducible refine (a0.out _).mono ?_);rintro _ v3 ⟨rfl,f3⟩;have au:=aj.trans f3 zr))
  go_ret
  exact ⟨zeB hv.out,ak⟩
 subst h3
 rcases zb (decide ((208:Int)<n3)) with h4|h4
 ·
  have hv:Hid (true=LB):=by show _=_;rw [af.out];simp [h1,h2,h4]
  clear af;go_enter func147,ntmps147
  go_wp2_with (first
   |(go_at_call 188;(with_reducible refine (kA.out _ f0).mono ?_);rintro _ v1 ⟨rfl,f1⟩;obtain ⟨ag,ah,ai,aa,ab,ac,ad,ae⟩:=zk8 f1 c2 c4 c9 a3 ay a1 a4 a2;have ak:=f0.trans f1 zr)
   |(go_at_call 189;(with_reducible refine (kB.out _ ak).mono ?_);rintro _ v2 ⟨rfl,f2⟩;obtain ⟨aw,ax,av,ar,al,aq,ao,ap⟩:=zk8 f2 ag ah ai aa ab ac ad ae;have aj:=ak.trans f2 zr)
   |(go_at_call 176;(with_reducible refine (az.out _).mono ?_);rintro _ v3 ⟨rfl,f3⟩;have au:=aj.trans f3 zr)
   |(go_at_call 176;(with_reducible refine (a0.out _).mono ?_);rintro _ v3 ⟨rfl,f3⟩;have au:=aj.trans f3 zr))
  go_ret
  exact ⟨zeB hv.out,ak⟩
 rcases zb (decide ((8:Int)<n4)) with h5|h5
 ·
  have hv:Hid (true=LB):=by show _=_;rw [af.out];simp [h1,h2,h4,h5]
  clear af;go_enter func147,ntmps147
  go_wp2_with (first
   |(go_at_call 188;(with_reducible refine (kA.out _ f0).mono ?_);rintro _ v1 ⟨rfl,f1⟩;obtain ⟨ag,ah,ai,aa,ab,ac,ad,ae⟩:=zk8 f1 c2 c4 c9 a3 ay a1 a4 a2;have ak:=f0.trans f1 zr)
   |(go_at_call 189;(with_reducible refine (kB.out _ ak).mono ?_);rintro _ v2 ⟨rfl,f2⟩;obtain ⟨aw,ax,av,ar,al,aq,ao,ap⟩:=zk8 f2 ag ah ai aa ab ac ad ae;have aj:=ak.trans f2 zr)
   |(go_at_call 176;(with_reducible refine (az.out _).mono ?_);rintro _ v3 ⟨rfl,f3⟩;have au:=aj.trans f3 zr)
   |(go_at_call 176;(with_reducible refine (a0.out _).mono ?_);rintro _ v3 ⟨rfl,f3⟩;have au:=aj.trans f3 zr))
  go_ret
  exact ⟨zeB hv.out,ak⟩
 rcases zb (decide ((20:Int)<n5)) with h6|h6
 ·
  have hv:Hid (true=LB):=by show _=_;rw [af.out];simp [h1,h2,h4,h5,h6]
  clear af;go_enter func147,ntmps147
  go_wp2_with (first
   |(go_at_call 188;(with_reducible refine (kA.out _ f0).mono ?_);rintro _ v1 ⟨rfl,f1⟩;obtain ⟨ag,ah,ai,aa,ab,ac,ad,ae⟩:=zk8 f1 c2 c4 c9 a3 ay a1 a4 a2;have ak:=f0.trans f1 zr)
   |(go_at_call 189;(with_reducible refine (kB.out _ ak).mono ?_);rintro _ v2 ⟨rfl,f2⟩;obtain ⟨aw,ax,av,ar,al,aq,ao,ap⟩:=zk8 f2 ag ah ai aa ab ac ad ae;have aj:=ak.trans f2 zr)
   |(go_at_call 176;(with_reducible refine (az.out _).mono ?_);rintro _ v3 ⟨rfl,f3⟩;have au:=aj.trans f3 zr)
   |(go_at_call 176;(with_reducible refine (a0.out _).mono ?_);rintro _ v3 ⟨rfl,f3⟩;have au:=aj.trans f3 zr))
  go_ret
  exact ⟨zeB hv.out,ak⟩
 rcases zb ha with h7|h7
 rotate_left
 ·
  have hv:Hid (true=LB):=by show _=_;rw [af.out];simp [h1,h2,h4,h5,h6,h7]
  subst h7;clear af;go_enter func147,ntmps147
  go_wp2_with (first
   |(go_at_call 188;(with_reducible refine (kA.out _ f0).mono ?_);rintro _ v1 ⟨rfl,f1⟩;obtain ⟨ag,ah,ai,aa,ab,ac,ad,ae⟩:=zk8 f1 c2 c4 c9 a3 ay a1 a4 a2;have ak:=f0.trans f1 zr)
   |(go_at_call 189;(with_reducible refine (kB.out _ ak).mono ?_);rintro _ v2 ⟨rfl,f2⟩;obtain ⟨aw,ax,av,ar,al,aq,ao,ap⟩:=zk8 f2 ag ah ai aa ab ac ad ae;have aj:=ak.trans f2 zr)
   |(go_at_call 176;(with_reducible refine (az.out _).mono ?_);rintro _ v3 ⟨rfl,f3⟩;have au:=aj.trans f3 zr)
   |(go_at_call 176;(with_reducible refine (a0.out _).mono ?_);rintro _ v3 ⟨rfl,f3⟩;have au:=aj.trans f3 zr))
  go_ret
  exact ⟨zeB hv.out,aj⟩
 subst h7
 rcases zb (decide ((6:Int)<n6)) with h8|h8
 ·
  have hv:Hid (true=LB):=by show _=_;rw [af.out];simp [h1,h2,h4,h5,h6,h8]
  clear af;go_enter func147,ntmps147
  go_wp2_with (first
   |(go_at_call 188;(with_reducible refine (kA.out _ f0).mono ?_);rintro _ v1 ⟨rfl,f1⟩;obtain ⟨ag,ah,ai,aa,ab,ac,ad,ae⟩:=zk8 f1 c2 c4 c9 a3 ay a1 a4 a2;have ak:=f0.trans f1 zr)
   |(go_at_call 189;(with_reducible refine (kB.out _ ak).mono ?_);rintro _ v2 ⟨rfl,f2⟩;obtain ⟨aw,ax,av,ar,al,aq,ao,ap⟩:=zk8 f2 ag ah ai aa ab ac ad ae;have aj:=ak.trans f2 zr)
   |(go_at_call 176;(with_reducible refine (az.out _).mono ?_);rintro _ v3 ⟨rfl,f3⟩;have au:=aj.trans f3 zr)
   |(go_at_call 176;(with_reducible refine (a0.out _).mono ?_);rintro _ v3 ⟨rfl,f3⟩;have au:=aj.trans f3 zr))
  go_ret
  exact ⟨zeB hv.out,aj⟩
 rcases zb (kd==7) with k7|k7
 ·
  have hv:Hid ((!i7)=LB):=by show _=_;have p:kd=7:=(by simpa using k7);rw [af.out];simp [h1,h2,h4,h5,h6,h8,p]
  clear af
  cases i7
  all_goals
   go_enter func147,ntmps147
   go_wp2_with (first
    |(go_at_call 188;(with_reducible refine (kA.out _ f0).mono ?_);rintro _ v1 ⟨rfl,f1⟩;obtain ⟨ag,ah,ai,aa,ab,ac,ad,ae⟩:=zk8 f1 c2 c4 c9 a3 ay a1 a4 a2;have ak:=f0.trans f1 zr)
    |(go_at_call 189;(with_reducible refine (kB.out _ ak).mono ?_);rintro _ v2 ⟨rfl,f2⟩;obtain ⟨aw,ax,av,ar,al,aq,ao,ap⟩:=zk8 f2 ag ah ai aa ab ac ad ae;have aj:=ak.trans f2 zr)
    |(go_at_call 176;(with_reducible refine (az.out _).mono ?_);rintro _ v3 ⟨rfl,f3⟩;have au:=aj.trans f3 zr)
    |(go_at_call 176;(with_reducible refine (a0.out _).mono ?_);rintro _ v3 ⟨rfl,f3⟩;have au:=aj.trans f3 zr))
   go_ret
   first|exact ⟨zeB hv.out,au⟩|exact ⟨zeB hv.out,aj⟩
 rcases zb (kd==9) with k9|k9
 ·
  have hv:Hid ((((n7:Int) !=n6))=LB):=by show _=_;have p:kd=9:=(by simpa using k9);rw [af.out];simp [h1,h2,h4,h5,h6,h8,p]
  clear af;go_enter func147,ntmps147
  go_wp2_with (first
   |(go_at_call 188;(with_reducible refine (kA.out _ f0).mono ?_);rintro _ v1 ⟨rfl,f1⟩;obtain ⟨ag,ah,ai,aa,ab,ac,ad,ae⟩:=zk8 f1 c2 c4 c9 a3 ay a1 a4 a2;have ak:=f0.trans f1 zr)
   |(go_at_call 189;(with_reducible refine (kB.out _ ak).mono ?_);rintro _ v2 ⟨rfl,f2⟩;obtain ⟨aw,ax,av,ar,al,aq,ao,ap⟩:=zk8 f2 ag ah ai aa ab ac ad ae;have aj:=ak.trans f2 zr)
   |(go_at_call 176;(with_reducible refine (az.out _).mono ?_);rintro _ v3 ⟨rfl,f3⟩;have au:=aj.trans f3 zr)
   |(go_at_call 176;(with_reducible refine (a0.out _).mono ?_);rintro _ v3 ⟨rfl,f3⟩;have au:=aj.trans f3 zr))
  go_ret
  first|exact ⟨zeB hv.out,au⟩|exact ⟨zeB hv.out,aj⟩
 rcases zb (kd==10) with k10|k10
 ·
  have hv:Hid ((!i10)=LB):=by show _=_;have p:kd=10:=(by simpa using k10);rw [af.out];simp [h1,h2,h4,h5,h6,h8,p]
  clear af
  cases i10
  all_goals
   go_enter func147,ntmps147
   go_wp2_with (first
    |(go_at_call 188;(with_reducible refine (kA.out _ f0).mono ?_);rintro _ v1 ⟨rfl,f1⟩;obtain ⟨ag,ah,ai,aa,ab,ac,ad,ae⟩:=zk8 f1 c2 c4 c9 a3 ay a1 a4 a2;have ak:=f0.trans f1 zr)
    |(go_at_call 189;(with_reducible refine (kB.out _ ak).mono ?_);rintro _ v2 ⟨rfl,f2⟩;obtain ⟨aw,ax,av,ar,al,aq,ao,ap⟩:=zk8 f2 ag ah ai aa ab ac ad ae;have aj:=ak.trans f2 zr)
    |(go_at_call 176;(with_reducible refine (az.out _).mono ?_);rintro _ v3 ⟨rfl,f3⟩;have au:=aj.trans f3 zr)
    |(go_at_call 176;(with_reducible refine (a0.out _).mono ?_);rintro _ v3 ⟨rfl,f3⟩;have au:=aj.trans f3 zr))
   go_ret
   first|exact ⟨zeB hv.out,au⟩|exact ⟨zeB hv.out,aj⟩
 rcases zb (kd==11) with k11|k11
 focus
  have hv:Hid ((((n7:Int) !=1))=LB):=by show _=_;have p:kd=11:=(by simpa using k11);rw [af.out];simp [h1,h2,h4,h5,h6,h8,p]
 rotate_left
 focus
  have hv:Hid ((false)=LB):=by show _=_;have q7:¬kd=7:=(by simpa using k7);have q9:¬kd=9:=(by simpa using k9);have a8:¬kd=10:=(by simpa using k10);have a9:¬kd=11:=(by simpa using k11);rw [af.out];simp [h1,h2,h4,h5,h6,h8,q7,q9,a8,a9]
 all_goals
  clear af;go_enter func147,ntmps147
  go_wp2_with (first
   |(go_at_call 188;(with_reducible refine (kA.out _ f0).mono ?_);rintro _ v1 ⟨rfl,f1⟩;obtain ⟨ag,ah,ai,aa,ab,ac,ad,ae⟩:=zk8 f1 c2 c4 c9 a3 ay a1 a4 a2;have ak:=f0.trans f1 zr)
   |(go_at_call 189;(with_reducible refine (kB.out _ ak).mono ?_);rintro _ v2 ⟨rfl,f2⟩;obtain ⟨aw,ax,av,ar,al,aq,ao,ap⟩:=zk8 f2 ag ah ai aa ab ac ad ae;have aj:=ak.trans f2 zr)
   |(go_at_call 176;(with_reducible refine (az.out _).mono ?_);rintro _ v3 ⟨rfl,f3⟩;have au:=aj.trans f3 zr)
   |(go_at_call 176;(with_reducible refine (a0.out _).mono ?_);rintro _ v3 ⟨rfl,f3⟩;have au:=aj.trans f3 zr))
  go_ret
  first|exact ⟨zeB hv.out,au⟩|exact ⟨zeB hv.out,aj⟩
end Oq
section
open Go.RowKit Go.Maps
namespace Oq
attribute [local go_sem] A63 A64
attribute [local go_sem ↓] Bq
theorem An0:∀k,k<14->kindsL.getD k 0=((kindsN.getD k 0:Nat):Int):=by decide
def Tr (e:Int) (w:World) (r:Ending) (w':World):Prop:=r=.returned (.int .i64 e)/\Fr Non w w'
theorem Ts {α:Type} (r:α->α->Bool) (l:List α) {k:Nat} {x y:α} (hx:l[k]? =some x) (hy:l[k+1]? =some y):Bl r (l.take (k+2))=(Bl r (l.take (k+1))&&r x y):=by
 induction k generalizing l with
 |zero=>
  match l,hx,hy with
  |a::b::t,hx,hy=>
   simp at hx hy;subst hx;subst hy;simp [Bl]
 |succ k ih=>
  match l,hx,hy with
  |a::b::t,hx,hy=>
   have h:=ih (b::t) (by simpa using hx) (by simpa using hy);rw [A65,A65] at h ⊢;rw [A65,A65];show (r a b&&Bl r (b::t.take (k+1)))=((r a b&&Bl r (b::t.take k))&&r x y);rw [h,A60]
theorem Tt {α:Type} (r:α->α->Bool) (l:List α):Bl r (l.take (0+1))=true:=by
 cases l with
 |nil=>rfl
 |cons a t=>rfl
theorem Nn (x:OpL) (w:World) (hat:x.at w w.heap.size) (hok:x.op.ok) (hkn:KindsAt w):Calls zp 88 #[.agg x.cells] w (Tr x.op.chk w):=by
 have bg:x.cells.size=27:=rfl;have bh:(zp.info? 52).map (·.size)=some x.cells.size:=by rw [bg];kernel_rfl
 have bq:=Be (P:=zp) w.heap.size 52 underlying52 rfl bh;have hb:=Blk.new w 52 x.cells;have f0:Fr Non w (w.alloc (.cells x.cells 52)):=(Fr.refl Non w).alloc _;have c2:cI (w.alloc (.cells x.cells 52)) w.heap.size 2 x.kind:=hb.cell 2;have c4:cS (w.alloc (.cells x.cells 52)) w.heap.size 4 x.pastA x.past.length x.pastC:=hb.cell 4;have a7:cS (w.alloc (.cells x.cells 52)) w.heap.size 19 x.guardsA x.guards.length x.guardsC:=hb.cell 19;have ai:x.guards.length<=1000000:=by have h:=hok.guards.1;rw [show x.op.guards=x.guards from rfl] at h;omega
 have au:x.past.length<=1000000:=by have h:=hok.past.1;rw [show x.op.past=x.past from rfl] at h;omega
 have ad:=hat.past.1.fr f0 zr;have ab:=hat.guards.1.fr f0 zr;have kp:=lh (fun (w':World)=>Ai9 x w');have kr:=lh (fun (has:Nat) (hh:has<65536) (w':World) (h:Fr Non w w')=>Am1 x has hh w' ((hat.fr h zr).mono h.size) hok);have kl:=lh (fun (w':World) (h:Fr Non w w')=>Am9 x w' ((hat.fr h zr).mono h.size) hok);have aa:Hid (x.op.chk=if x.kind<1\/13<x.kind then 1 else if x.op.bareB=false then 1 else if x.op.numsB=false then 8 else if x.op.itemsB=false then 8 else if x.op.longB=true then 2 else if (Bl Id.less x.past&&Bl (fun a b=>decide (a<b)) x.guards)=false then 6 else if decide (x.past=[])≠decide (x.kind=1) then 10 else 0):=rfl;have af:=lh (Am4 x);have ah:=lh (Am7 x);generalize x.op.chk=EC at*;have a2:=hkn.fr f0;clear hat hok bg bh hkn;have bo:Hid (∀w',Blk w' w.heap.size 52 x.cells->cI w' w.heap.size 2 x.kind):=fun w' h=>h.cell 2;have bm:Hid (∀w',Calls zp 145 #[.agg x.cells] w' (Tl x w')):=kp.out;clear kp;generalize hCS:x.cells=CS at*;clear hCS
 rcases zb (decide (x.kind<1)) with k1|k1
 ·
  have hv:Hid (1=EC):=by show _=_;rw [aa.out,if_pos (Or.inl (of_decide_eq_true k1))]
  clear aa;go_enter func88,ntmps88;go_upto_region 1 with (fail)
  refine wp_region_held_drew (S:=(fun w'=>Blk w' w.heap.size 52 CS/\cI w' w.heap.size 2 x.kind)) (by kernel_rfl) ⟨hb,c2⟩ (fun hHeld=> ?_);clear hHeld;have hS:(fun w'=>Blk w' w.heap.size 52 CS/\cI w' w.heap.size 2 x.kind) ((w.alloc (.cells CS 52)).drew):=⟨hb,c2⟩;have fd:=f0.drew;generalize (w.alloc (.cells CS 52)).drew=w0 at hS fd ⊢;refine tkN 0 4 hS (h:=skN 4 3 hS (h:=tkN 7 2 hS (h:=skN 9 8 hS (h:=tkN 17 1 hS (h:=?_)))));refine oD ?_;go_simp;go_wp2_with fail
  go_ret
  exact ⟨zeI hv.out,fd⟩
 rcases zb (decide ((13:Int)<x.kind)) with k13|k13
 ·
  have hv:Hid (1=EC):=by show _=_;rw [aa.out,if_pos (Or.inr (of_decide_eq_true k13))]
  clear aa;go_enter func88,ntmps88;go_upto_region 1 with (fail)
  refine wp_region_held_drew (S:=(fun w'=>Blk w' w.heap.size 52 CS/\cI w' w.heap.size 2 x.kind)) (by kernel_rfl) ⟨hb,c2⟩ (fun hHeld=> ?_);clear hHeld;have hS:(fun w'=>Blk w' w.heap.size 52 CS/\cI w' w.heap.size 2 x.kind) ((w.alloc (.cells CS 52)).drew):=⟨hb,c2⟩;have fd:=f0.drew;generalize (w.alloc (.cells CS 52)).drew=w0 at hS fd ⊢;refine tkN 0 9 hS (h:=skN 9 8 hS (h:=tkN 17 1 hS (h:=?_)));refine oD ?_;go_simp;go_wp2_with fail
  go_ret
  exact ⟨zeI hv.out,fd⟩
 obtain ⟨k,bd⟩:∃k:Nat,x.kind=(k:Int):=⟨x.kind.toNat,by have:=of_decide_eq_false k1;omega⟩;have bl:1<=k:=by have:=of_decide_eq_false k1;omega
 have a3:k<14:=by have:=of_decide_eq_false k13;omega
 have i1:(0:Int)<=k:=by omega
 have i2:(k:Int)<14:=by omega
 have i3:(k:Int).toNat=k:=by omega
 replace aa:Hid (EC=if x.op.bareB=false then 1 else if x.op.numsB=false then 8 else if x.op.itemsB=false then 8 else if x.op.longB=true then 2 else if (Bl Id.less x.past&&Bl (fun a b=>decide (a<b)) x.guards)=false then 6 else if decide (x.past=[])≠decide (x.kind=1) then 10 else 0):=by show _=_;rw [aa.out,if_neg (by have a:=of_decide_eq_false k1;have b:=of_decide_eq_false k13;omega)]
 have cN:=a2 k a3;rw [An0 k a3] at cN;have hN:=Am2 k a3;replace af:=lh (af.out k bd bl a3);replace ah:=lh (ah.out k bd bl a3);rw [bd] at c2 k1 k13 aa;generalize kindsN.getD k 0=kN at*;replace kr:=lh (fun (w':World) (h:Fr Non w w')=>kr.out kN hN w' h);rw [ah.out] at kr;clear ah bo a2;go_enter func88,ntmps88;go_upto_region 1 with (fail)
 refine wp_region_held_drew (S:=(fun w'=>Blk w' w.heap.size 52 CS/\cI w' w.heap.size 2 (k:Int)/\cI w' 0 k (kN:Int))) (by kernel_rfl) ⟨hb,c2,cN⟩ (fun hHeld=> ?_);clear hHeld;have hS:(fun w'=>Blk w' w.heap.size 52 CS/\cI w' w.heap.size 2 (k:Int)/\cI w' 0 k (kN:Int)) ((w.alloc (.cells CS 52)).drew):=⟨hb,c2,cN⟩;have fd:=f0.drew;replace c4:cS ((w.alloc (.cells CS 52)).drew) w.heap.size 4 x.pastA x.past.length x.pastC:=c4;replace a7:cS ((w.alloc (.cells CS 52)).drew) w.heap.size 19 x.guardsA x.guards.length x.guardsC:=a7;replace ad:=ad.fr (S:=Non) (Fr.drew (Fr.refl _ _)) zr;replace ab:=ab.fr (S:=Non) (Fr.drew (Fr.refl _ _)) zr;clear hb c2 cN f0;generalize (w.alloc (.cells CS 52)).drew=w0 at*;refine tkN 0 10 hS (h:=tkN 11 4 hS (h:=?_));refine oG 10 (fun K hK=> ?_);go_simp;go_wp2_with (go_at_call 145;(with_reducible refine (bm.out _).mono ?_);rintro _ w1 ⟨nP,rfl,ag,f1⟩);refine hK.out _ _ ⟨hS.1.fr f1 zq,f1.cell hS.2.1 zq,f1.cell hS.2.2 zq⟩ (fun ax=> ?_);clear hK K;try simp only [Ah,zl]
 have bi:nP<65536:=by
  have:nP<2^16:=Nat.lt_pow_two_of_testBit nP (fun j hj=>by rw [ag j,N1 x j hj]);omega
 have hz:=Ai5 nP kN bi hN;have bj:Hid ((bits .andNot .i64 (nP:Int) (kN:Int)=0)<->x.op.bareB=true):=hz.trans ((show (∀j,nP.testBit j=true->kN.testBit j=true)<->(∀j,x.presB j=true->kN.testBit j=true) from ⟨fun h j hj=>h j (by rw [ag];exact hj),fun h j hj=>h j (by rw [<- ag];exact hj)⟩).trans af.out);clear hz af ag
 have a8:Hid ((bits .andNot .i64 (nP:Int) (kN:Int) !=0)=!x.op.bareB):=by
  show _=_;rw [bne,Bool.not_inj_iff,A59,beq_iff_eq];exact bj.out
 clear bj;generalize hpn:bits .andNot .i64 (nP:Int) (kN:Int)=pn at*
 cases hbb:x.op.bareB
 ·
  have hv:Hid (1=EC):=by show _=_;rw [aa.out,if_pos hbb]
  have a4:(pn !=0)=true:=by rw [a8.out,hbb];rfl
  clear aa a8;refine tkN 15 3 ax (h:=?_);refine oD ?_;go_simp;go_wp2_with fail
  go_ret
  exact ⟨zeI hv.out,fd.trans f1 zr⟩
 have a4:(pn !=0)=false:=by rw [a8.out,hbb];rfl
 replace aa:Hid (EC=if x.op.numsB=false then 8 else if x.op.itemsB=false then 8 else if x.op.longB=true then 2 else if (Bl Id.less x.past&&Bl (fun a b=>decide (a<b)) x.guards)=false then 6 else if decide (x.past=[])≠decide ((k:Int)=1) then 10 else 0):=by show _=_;rw [aa.out,if_neg (by rw [hbb];decide)]
 clear a8 hbb;refine tkN 15 3 ax (h:=?_);refine oD ?_;go_simp;have fz:=fd.trans f1 zr;obtain ⟨d4,bf⟩:=zk2 f1 c4 a7;replace ad:=ad.fr f1 zr;replace ab:=ab.fr f1 zr;clear c4 a7 f1 fd hS a4 hpn bi;obtain ⟨np,ao⟩:=Ab x.past.length;rw [ao.out] at ad au d4;obtain ⟨ng,a6⟩:=Ab x.guards.length;rw [a6.out] at ab ai bf;have a9:Hid (∀n:Nat,n<=1000000->IntKind.i64.wrap ((n:Int)-1)=(n:Int)-1):=fun n hn=>IntWalk.i64_in _ (by omega);have bs:=a9.out np au;have bp:=a9.out ng ai;clear a9;obtain ⟨nb,ba⟩:=Ab x.op.numsB;obtain ⟨ib,bc⟩:=Ab x.op.itemsB;obtain ⟨lb,be⟩:=Ab x.op.longB;rw [ba.out,bc.out] at kr;rw [be.out] at kl;rw [ba.out,bc.out,be.out] at aa;clear ba bc be;go_wp2_with fail
 go_loopw [3,28] (fun r v wr=>∃(i:Nat) (rb:Bool),v=.int .i64 (i:Int)/\r=.bool rb/\Hid (rb=Bl Id.less (x.past.take (i+1)))/\(i=0\/i+1<=np)/\Fr Non w1 wr) (fun _ v _=>np-(intOf v).toNat)
 case atStart=>exact ⟨0,true,rfl,rfl,(Tt _ _).symm,Or.inl rfl,Fr.refl _ _⟩
 case round=>
  obtain ⟨i,rb,rfl,rfl,a1,hi,hf⟩:=hrel
  by_cases hlt:i+1<np
  ·
   have n1:(i:Int)<(np:Int)-1:=by omega
   obtain ⟨n2,n3,n4⟩:=ix i np
   have n5:=iw ((i:Int)+1);have n6:(0:Int)<=(i:Int)+1:=by omega
   have n7:(i:Int)+1<np:=by omega
   have n8:((i:Int)+1).toNat=i+1:=by omega
   obtain ⟨y,hy⟩:∃y,x.past[i]? =some y:=⟨_,A62 (by rw [ao.out];omega)⟩;obtain ⟨z,hz⟩:∃z,x.past[i+1]? =some z:=⟨_,A62 (by rw [ao.out];omega)⟩;obtain ⟨b,ac,hA,bn,e0,e1,e2⟩:=Id.at (ad.fr hf zr) hy;obtain ⟨b',aw,ay,az,g0,g1,g2⟩:=Id.at (ad.fr hf zr) hz;rw [hA] at ay;obtain ⟨rfl,rfl⟩:b=b'/\ac=aw:=by cases ay;exact ⟨rfl,rfl⟩
   clear ay az;have cc:=hf.cell d4 zq;rw [hA] at cc;have ap:Hid (Bl Id.less (x.past.take (i+2))=(Bl Id.less (x.past.take (i+1))&&Id.less y z)):=Ts Id.less x.past hy hz;have al:i+2<=np:=by omega
   clear hy hz hi hlt hA;go_upto_region 7 with (fail)
   refine wp_region_held_drew (S:=(fun w'=>cS w' w.heap.size 4 (some ⟨b,ac,none⟩) np x.pastC/\cI w' b (ac+i*3) y.b/\cI w' b (ac+i*3+1) y.s/\cU w' b (ac+i*3+2) y.u/\cI w' b (ac+(i+1)*3) z.b/\cI w' b (ac+(i+1)*3+1) z.s/\cU w' b (ac+(i+1)*3+2) z.u)) (by kernel_rfl) ⟨cc,e0,e1,e2,g0,g1,g2⟩ (fun ae=> ?_);replace hf:=hf.drew;clear cc e0 e1 e2 g0 g1 g2;generalize wr.drew=wq at*
   cases rb
   ·
    have aj:Hid (false=Bl Id.less (x.past.take (i+2))):=by show _=_;rw [ap.out,<- a1.out];rfl
    clear a1 ap;refine tkN 0 2 ae (h:=skN 2 12 ae (h:=tkN 14 2 ae (h:=?_)));refine oD ?_;go_simp;go_wp2_with fail;go_roundw
    case rel=>exact ⟨i+1,false,by first|rfl|go_num,rfl,aj,Or.inr al,hf⟩
    case measure=>simp [intOf];omega
   ·
    have aj:Hid (Id.less y z=Bl Id.less (x.past.take (i+2))):=by show _=_;rw [ap.out,<- a1.out];rfl
    clear a1 ap;refine tkN 0 13 ae (h:=?_);refine oG 13 (fun K hK=> ?_);go_simp;go_wp2_with (go_at_call 134;(with_reducible refine (Mt y z _).mono ?_);rintro _ w3 ⟨rfl,f3⟩);refine hK.out _ _ ⟨f3.cell ae.1 zq,f3.cell ae.2.1 zq,f3.cell ae.2.2.1 zq,f3.cell ae.2.2.2.1 zq,f3.cell ae.2.2.2.2.1 zq,f3.cell ae.2.2.2.2.2.1 zq,f3.cell ae.2.2.2.2.2.2 zq⟩ (fun aq=> ?_);clear hK K;try simp only [Ah,zl]
    refine tkN 14 2 aq (h:=?_);refine oD ?_;go_simp;go_wp2_with fail;go_roundw
    case rel=>exact ⟨i+1,_,by first|rfl|go_num,rfl,aj,Or.inr al,hf.trans f3 zr⟩
    case measure=>simp [intOf];omega
  ·
   have n1:¬((i:Int)<(np:Int)-1):=by omega
   have aj:Hid (rb=Bl Id.less x.past):=by show _=_;rw [a1.out,A69 (by rw [ao.out];omega)]
   replace aa:Hid (EC=if nb=false then 8 else if ib=false then 8 else if lb=true then 2 else if (rb&&Bl (fun a b=>decide (a<b)) x.guards)=false then 6 else if decide (x.past=[])≠decide ((k:Int)=1) then 10 else 0):=by show _=_;rw [aa.out,<- aj.out]
   obtain ⟨bk,e4⟩:=zk2 hf bf d4;have a5:(fun w'=>Blk w' w.heap.size 52 CS/\cI w' w.heap.size 2 (k:Int)/\cI w' 0 k (kN:Int)) wr:=⟨ax.1.fr hf zq,hf.cell ax.2.1 zq,hf.cell ax.2.2 zq⟩;replace ab:=ab.fr hf zr;replace fz:=fz.trans hf zr;clear a1 aj ad hlt hi bf d4 ax hf;generalize hgw:wr=v1 at*;go_wp2_with fail
   go_loopw [3,51] (fun r v wr=>∃(i:Nat) (rc:Bool),v=.int .i64 (i:Int)/\r=.bool rc/\Hid (rc=(rb&&Bl (fun a b=>decide (a<b)) (x.guards.take (i+1))))/\(i=0\/i+1<=ng)/\Fr Non v1 wr) (fun _ v _=>ng-(intOf v).toNat)
   case atStart=>exact ⟨0,rb,rfl,rfl,by show _=_;rw [Tt,Bool.and_true],Or.inl rfl,Fr.refl _ _⟩
   case round=>
    obtain ⟨i,rc,rfl,rfl,a0,hi,hf⟩:=hrel
    by_cases hlt:i+1<ng
    ·
     have n1:(i:Int)<(ng:Int)-1:=by omega
     obtain ⟨n2,n3,n4⟩:=ix i ng
     have n5:=iw ((i:Int)+1);have n6:(0:Int)<=(i:Int)+1:=by omega
     have n7:(i:Int)+1<ng:=by omega
     have n8:((i:Int)+1).toNat=i+1:=by omega
     obtain ⟨y,hy⟩:∃y,x.guards[i]? =some y:=⟨_,A62 (by rw [a6.out];omega)⟩;obtain ⟨z,hz⟩:∃z,x.guards[i+1]? =some z:=⟨_,A62 (by rw [a6.out];omega)⟩;obtain ⟨b,ac,u,hA,bn,hu,e0⟩:=(ab.fr hf zr).at (show i<ng by omega);obtain ⟨b',aw,u',ay,az,bb,g0⟩:=(ab.fr hf zr).at (show i+1<ng by omega);rw [A70,hy] at hu;rw [A70,hz] at bb;obtain rfl:=(Option.some.inj hu).symm;obtain rfl:=(Option.some.inj bb).symm;rw [hA] at ay;obtain ⟨rfl,rfl⟩:b=b'/\ac=aw:=by cases ay;exact ⟨rfl,rfl⟩
     replace e0:cI wr b (ac+i) y:=e0;replace g0:cI wr b (ac+(i+1)) z:=g0;clear ay az hu bb;have cc:=hf.cell bk zq;rw [hA] at cc;have ap:Hid (Bl (fun a b=>decide (a<b)) (x.guards.take (i+2))=(Bl (fun a b=>decide (a<b)) (x.guards.take (i+1))&&decide (y<z))):=Ts (fun (a b:Int)=>decide (a<b)) x.guards hy hz;have al:i+2<=ng:=by omega
     clear hy hz hi hlt hA;go_upto_region 12 with (fail)
     refine wp_region_held_drew (S:=(fun w'=>cS w' w.heap.size 19 (some ⟨b,ac,none⟩) ng x.guardsC/\cI w' b (ac+i) y/\cI w' b (ac+(i+1)) z)) (by kernel_rfl) ⟨cc,e0,g0⟩ (fun ae=> ?_);replace hf:=hf.drew;clear cc e0 g0;generalize wr.drew=wq at*
     cases rc
     ·
      have ak:Hid (false=(rb&&Bl (fun a b=>decide (a<b)) (x.guards.take (i+2)))):=by show _=_;rw [ap.out,<- A60,<- a0.out];rfl
      clear a0 ap;refine tkN 0 2 ae (h:=skN 2 12 ae (h:=tkN 14 2 ae (h:=?_)));refine oD ?_;go_simp;go_wp2_with fail;go_roundw
      case rel=>exact ⟨i+1,false,by first|rfl|go_num,rfl,ak,Or.inr al,hf⟩
      case measure=>simp [intOf];omega
     ·
      have ak:Hid (decide (y<z)=(rb&&Bl (fun a b=>decide (a<b)) (x.guards.take (i+2)))):=by show _=_;rw [ap.out,<- A60,<- a0.out];rfl
      clear a0 ap;refine tkN 0 16 ae (h:=?_);refine oD ?_;go_simp;go_wp2_with fail;go_roundw
      case rel=>exact ⟨i+1,_,by first|rfl|go_num,rfl,ak,Or.inr al,hf⟩
      case measure=>simp [intOf];omega
    ·
     have n1:¬((i:Int)<(ng:Int)-1):=by omega
     have ak:Hid (rc=(rb&&Bl (fun a b=>decide (a<b)) x.guards)):=by show _=_;rw [a0.out,A69 (by rw [a6.out];omega)]
     replace aa:Hid (EC=if nb=false then 8 else if ib=false then 8 else if lb=true then 2 else if rc=false then 6 else if decide (x.past=[])≠decide ((k:Int)=1) then 10 else 0):=by show _=_;rw [aa.out,<- ak.out]
     have c4:=hf.cell e4 zq;have av:(fun w'=>Blk w' w.heap.size 52 CS/\cI w' w.heap.size 2 (k:Int)/\cI w' 0 k (kN:Int)) wr:=⟨a5.1.fr hf zq,hf.cell a5.2.1 zq,hf.cell a5.2.2 zq⟩;replace fz:=fz.trans hf zr;clear a0 ak ab hlt hi bk e4 a5 hf;go_wp2_with fail;refine wp_region_held_drew (S:=(fun w'=>Blk w' w.heap.size 52 CS/\cI w' w.heap.size 2 (k:Int)/\cI w' 0 k (kN:Int))) (by kernel_rfl) av (fun hHeld=> ?_);clear hHeld;replace av:(fun w'=>Blk w' w.heap.size 52 CS/\cI w' w.heap.size 2 (k:Int)/\cI w' 0 k (kN:Int)) wr.drew:=av;replace fz:=fz.drew;replace c4:cS wr.drew w.heap.size 4 x.pastA np x.pastC:=c4;generalize wr.drew=v2 at*;refine tkN 0 5 av (h:=?_);refine oG 5 (fun K hK=> ?_);go_simp;go_wp2_with (go_at_call 146;(with_reducible refine (kr.out _ fz).mono ?_);rintro _ w3 ⟨rfl,f3⟩);refine hK.out _ _ ⟨av.1.fr f3 zq,f3.cell av.2.1 zq,f3.cell av.2.2 zq⟩ (fun aq=> ?_);clear hK K;try simp only [Ah,zl]
     replace fz:=fz.trans f3 zr;replace c4:=f3.cell c4 zq;have br:=aq.1;have c2:=aq.2.1;generalize hnib:(nb&&ib)=nib at*
     cases nib
     ·
      have hv:Hid (8=EC):=by show _=_;rw [aa.out];cases nb<;>cases ib<;>first|rfl|cases hnib
      clear aa hnib;refine tkN 6 2 aq (h:=?_);refine oD ?_;go_simp;go_wp2_with fail
      go_ret
      exact ⟨zeI hv.out,fz⟩
     ·
      obtain ⟨rfl,rfl⟩:nb=true/\ib=true:=by cases nb<;>cases ib<;>first|exact ⟨rfl,rfl⟩|cases hnib
      replace aa:Hid (EC=if lb=true then 2 else if rc=false then 6 else if decide (x.past=[])≠decide ((k:Int)=1) then 10 else 0):=aa;clear hnib;refine tkN 6 2 aq (h:=?_);refine oD ?_;go_simp
      cases lb
      ·
       replace aa:Hid (EC=if rc=false then 6 else if decide (x.past=[])≠decide ((k:Int)=1) then 10 else 0):=aa
       cases rc
       ·
        have hv:Hid (6=EC):=aa.out.symm;clear aa;go_wp2_with (go_at_call 147;(with_reducible refine (kl.out _ fz).mono ?_);rintro _ w4 ⟨rfl,f4⟩;have fz:=fz.trans f4 zr;obtain ⟨c4,c2⟩:=zk2 f4 c4 c2)
        go_ret
        exact ⟨zeI hv.out,fz⟩
       ·
        replace aa:Hid (EC=if decide (x.past=[])≠decide ((k:Int)=1) then 10 else 0):=aa;have ar:Hid (decide (x.past=[])=decide (np=0)):=by show _=_;rw [A59];simp only [decide_eq_true_eq];rw [<- ao.out];exact List.length_eq_zero_iff.symm
        rcases Nat.eq_zero_or_pos np with p0|p0<;>rcases Nat.lt_or_ge 1 k with q0|q0
        ·
         have b1:((np:Int)==0)=true:=by rw [p0];rfl
         have b2:((k:Int)==1)=false:=Dk (by omega);have hv:Hid (10=EC):=by show _=_;rw [aa.out,ar.out,if_pos (by rw [decide_eq_true p0,decide_eq_false (by omega)];decide)]
         clear aa ar p0 q0 ao;go_wp2_with (go_at_call 147;(with_reducible refine (kl.out _ fz).mono ?_);rintro _ w4 ⟨rfl,f4⟩;have fz:=fz.trans f4 zr;obtain ⟨c4,c2⟩:=zk2 f4 c4 c2)
         go_ret
         exact ⟨zeI hv.out,fz⟩
        ·
         have b1:((np:Int)==0)=true:=by rw [p0];rfl
         have b2:((k:Int)==1)=true:=E3 (by omega);have hv:Hid (0=EC):=by show _=_;rw [aa.out,ar.out,if_neg (by rw [decide_eq_true p0,decide_eq_true (by omega)];decide)]
         clear aa ar p0 q0 ao;go_wp2_with (go_at_call 147;(with_reducible refine (kl.out _ fz).mono ?_);rintro _ w4 ⟨rfl,f4⟩;have fz:=fz.trans f4 zr;obtain ⟨c4,c2⟩:=zk2 f4 c4 c2)
         go_ret
         exact ⟨zeI hv.out,fz⟩
        ·
         have b1:((np:Int)==0)=false:=Dk (by omega);have b2:((k:Int)==1)=false:=Dk (by omega);have hv:Hid (0=EC):=by show _=_;rw [aa.out,ar.out,if_neg (by rw [decide_eq_false (by omega),decide_eq_false (by omega)];decide)]
         clear aa ar p0 q0 ao;go_wp2_with (go_at_call 147;(with_reducible refine (kl.out _ fz).mono ?_);rintro _ w4 ⟨rfl,f4⟩;have fz:=fz.trans f4 zr;obtain ⟨c4,c2⟩:=zk2 f4 c4 c2)
         go_ret
         exact ⟨zeI hv.out,fz⟩
        ·
         have b1:((np:Int)==0)=false:=Dk (by omega);have b2:((k:Int)==1)=true:=E3 (by omega);have hv:Hid (10=EC):=by show _=_;rw [aa.out,ar.out,if_pos (by rw [decide_eq_false (by omega),decide_eq_true (by omega)];decide)]
         clear aa ar p0 q0 ao;go_wp2_with (go_at_call 147;(with_reducible refine (kl.out _ fz).mono ?_);rintro _ w4 ⟨rfl,f4⟩;have fz:=fz.trans f4 zr;obtain ⟨c4,c2⟩:=zk2 f4 c4 c2)
         go_ret
         exact ⟨zeI hv.out,fz⟩
      ·
       have hv:Hid (2=EC):=aa.out.symm;clear aa;go_wp2_with (go_at_call 147;(with_reducible refine (kl.out _ fz).mono ?_);rintro _ w4 ⟨rfl,f4⟩;have fz:=fz.trans f4 zr;obtain ⟨c4,c2⟩:=zk2 f4 c4 c2)
       go_ret
       exact ⟨zeI hv.out,fz⟩
end Oq
end
namespace Oq
attribute [local go_sem] A63 A64
attribute [local go_sem ↓] Fz Ti
end Oq
namespace Oq
theorem An1 {G P:Prop} (h:P->G) (hp:P):G:=h hp
theorem K8 {c:Prop} [Decidable c] {A B:Prop} (h:c) (ha:A):if c then A else B:=by rw [if_pos h];exact ha
def bdS (t:TypeId) (parts:Array (Nat × Value)):=Instr.build t parts
theorem Tu (p:Array (Nat × Value)):Instr.build 134 p=bdS 134 p:=rfl
theorem An2 {P:Program} (w:World) (t:TypeId) (parts:Array (Nat × Value)) (cells:Array Value) (h:P.built t parts.toList=some cells):(bdS t parts).run P w=.ok (.agg cells) w:=run_build w t parts cells h
attribute [local go_sem ↓] Bq Kr Ks Tu
attribute [local go_sem] A63 A64
def AddPost (base:Nat) (g:Gph) (o:Op) (w:World) (e:Ending) (w':World):Prop:=
 e=.returned (.int .i64 (Au g.cards g.pns o))/\
 ((Au g.cards g.pns o≠0/\Fr Non w w')\/(Au g.cards g.pns o=0/\∃g':Gph,GAt w' base g'/\g'.gb=g.gb/\g'.mb=g.mb/\g'.cards=g.cards/\g'.pns=g.pns++[Az g.pns o]/\Fr g.own w w'/\(∀k,k<w.heap.size->g'.own k->g.own k)/\∃n:Aj,g'.nodes=g.nodes++[n]/\n.x.own w' w.heap.size))
theorem AddPost.bad {base:Nat} {g:Gph} {o:Op} {w w':World} {err:Int} (h:Au g.cards g.pns o=err) (h0:err≠0) (hf:Fr Non w w'):AddPost base g o w (.returned (.int .i64 err)) w':=by
 subst h;exact ⟨rfl,.inl ⟨h0,hf⟩⟩
theorem An3 (y:OpL) (b s:Int) (u:Nat):zp.built 134 [(0,.agg y.cells),(1,.agg #[.int .i64 b,.int .i64 s,.int .u64 (u:Int)]),(3,.int .i64 1)]=some (⟨y,⟨b,s,u⟩,0,0,0,0,1⟩:Aj).cells.toArray:=by kernel_rfl
structure N2 (w w':World) (base:Nat) (g:Gph) (x y:OpL) (gn:Nat):Prop where
 hg:GAt w base g
 hat:x.at w w.heap.size
 hok:x.op.ok
 bx:Blk w' w.heap.size 52 x.cells
 bn:Blk w' gn 134 (⟨y,x.op.name,0,0,0,0,1⟩:Aj).cells.toArray
 gn:w.heap.size<gn
 yop:y.op=x.op
 yown:y.own w' w.heap.size
 fr:Fr Non w w'
 chk:x.op.chk=0
 few:g.nodes.length<200
 all:x.past.any (fun id=>(plc g.pns id).isNone)=false
 new:plc g.pns x.op.name=none
 err:Au g.cards g.pns x.op=if clash g.pns x.op.past=true\/x.op.at_<late g.pns x.op.past then 6 else if Cu g.pns (Ak g.pns x.op.past) x.op=true then 11 else 0
section
variable {cards : List Cd} {l : List Pn} {o : Op}
theorem An4 (h:o.chk≠0):Au cards l o=o.chk:=by unfold Au;rw [if_pos h]
theorem An5 (h:o.chk=0) (h2:(plc l o.name).isSome=true):Au cards l o=5:=by unfold Au;rw [h,if_neg (by simp),if_pos h2]
theorem An6 (h:o.chk=0) (h2:plc l o.name=none) (h3:200<=l.length):Au cards l o=3:=by unfold Au;rw [h,h2,if_neg (by simp),if_neg (by simp),if_pos h3]
theorem An7 (h:o.chk=0) (h2:plc l o.name=none) (h3:l.length<200):Au cards l o=match Ev cards o.by_ with
  |none=>17
  |some c=>
   if Sg.check c.s o.bare o.r o.s=false then 12
   else if o.kind=1/\l≠[] then 1
   else if o.past.any (fun id=>(plc l id).isNone)=true then 10
   else if clash l o.past=true\/o.at_<late l o.past then 6
   else if Cu l (Ak l o.past) o=true then 11
   else 0:=by unfold Au;rw [h,h2,if_neg (by simp),if_neg (by simp),if_neg (by omega)];rfl
end
theorem N3 (o:Op):U64 o.id:=by
 have h:o.id<2305843009213693951:=Hs.of_lt _ _;exact Nat.lt_trans h (by decide)
theorem An8 (g:Gph) (l:List Id):(l.filter (fun id=> !(place g.nodes id).isSome)).length=0<->l.any (fun id=>(plc g.pns id).isNone)=false:=by
 rw [List.length_eq_zero_iff,List.filter_eq_nil_iff,List.any_eq_false]
 have h:∀id,(plc g.pns id).isNone=!(place g.nodes id).isSome:=by
  intro id;show (plc (g.nodes.map Aj.pn) id).isNone=_;rw [Gv]
  cases place g.nodes id<;>rfl
 constructor
 ·
  intro h1 id hid;rw [h];exact h1 id hid
 ·
  intro h1 id hid;have:=h1 id hid;rwa [h] at this
structure AddS0 (w w':World) (base:Nat) (g:Gph) (x y:OpL) (gn ui:Nat):Prop where
 hg:GAt w base g
 hat:x.at w w.heap.size
 hok:x.op.ok
 chk:x.op.chk=0
 id:x.op.id=ui
 bx:Blk w' w.heap.size 52 x.cells
 bn:Blk w' gn 134 (⟨y,⟨x.by_,x.sq,ui⟩,0,0,0,0,1⟩:Aj).cells.toArray
 gn:w.heap.size<gn
 yop:y.op=x.op
 yown:y.own w' w.heap.size
 fr:Fr Non w w'
def addA:PSigma (fun P:Prop=>PLift P->∀(base:Nat) (g:Gph) (x:OpL) (w:World),GAt w base g->x.at w w.heap.size->x.op.ok->KindsAt w->Calls zp 43 #[.pointer (some ⟨g.gb,0,none⟩),.agg x.cells] w (AddPost base g x.op w)):=PSigma.mk _ (by
 intro hP base g x w hg hat hok hkn;have hi:(zp.info? 52).map (·.size)=some 27:=by kernel_rfl
 have bk:(zp.info? 134).map (·.size)=some 35:=by kernel_rfl
 have ar:x.past.length<=1000000:=by have h:=hok.past.1;rw [show x.op.past=x.past from rfl] at h;omega
 have f0:Fr Non w (w.alloc (.cells x.cells 52)):=(Fr.refl Non w).alloc _;have bs:=Blk.new w 52 x.cells;have bw:=Be (P:=zp) w.heap.size 52 underlying52 rfl (cs:=x.cells) hi;have ah:=lh (fun w' (h:Fr Non w w')=>Nn x w' (OpL.frame hat h) hok (hkn.fr h));have bj:=lh (fun w' (h:x.at w' w'.heap.size)=>Sz x w' h hok);have a2:=lh (fun w' (h:x.at w' w'.heap.size)=>Sa x w' h hok);have b0:=lh (fun w' (h:Fr Non w w')=>Rb base g x.by_ w' (hg.fr h) hg.cfew);have bq:=lh (fun (c:Cd) (hc:c.s<18446744073709551616) w' (h:x.at w' w'.heap.size)=>Sj c.d c.m c.l c.k c.s x w' h hok hc);have bx:=lh (fun w' (h:Fr Non w w')=>Ko base g x w' Kq (hg.fr h) (OpL.frame hat h) (fun id hid=>hok.past.2 id hid) ar);have bm:=lh (fun (y:OpL) (ui:Nat) (w':World)=>An2 (P:=zp) w' 134 #[(0,.agg y.cells),(1,.agg #[.int .i64 x.by_,.int .i64 x.sq,.int .u64 (ui:Int)]),(3,.int .i64 1)] _ (An3 y x.by_ x.sq ui));have a1:=lh (fun (err:Int) (w':World) (h:Au g.cards g.pns x.op=err) (h0:err≠0) (hf:Fr Non w w')=>AddPost.bad (base:=base) h h0 hf);have a3:=N3 x.op;obtain ⟨ui,bi⟩:=Ab x.op.id
 have aq:Hid (x.op.name=⟨x.by_,x.sq,ui⟩):=by
  show _=_;unfold Op.name;rw [bi.out];rfl
 have br:Hid (plc g.pns x.op.name=place g.nodes ⟨x.by_,x.sq,ui⟩):=by
  show _=_;rw [aq.out];exact Gv _ _
 rw [bi.out] at a3;have bh:(Id.mk x.by_ x.sq ui).ok:=⟨hok.by_,hok.sq,a3⟩;obtain ⟨CX,a9⟩:=Ab x.cells;have e0:Hid (CX[0]? =some (.int .i64 x.by_)):=by show _=_;rw [<- a9.out];rfl
 have e2:Hid (CX[2]? =some (.int .i64 x.kind)):=by show _=_;rw [<- a9.out];rfl
 rw [a9.out] at f0 bs bw ah bj a2 bq bx ⊢;have b6:=lh hg;have be:=lh hok;have bt:=lh hat;unfold Tr at ah;unfold Nk at a2;unfold Iq at b0;unfold Ae at bq;obtain ⟨EC,ba⟩:=Ab x.op.chk;rw [ba.out] at ah;rw [bi.out] at a2;have bd:Hid (∀e w',AddPost base g x.op w e w'->AddPost base g x.op w e w'):=fun _ _ h=>h;clear hkn hok;go_enter func43,ntmps43;go_upto_region 1 with (fail)
 generalize w.alloc (.cells CX 52)=w0 at*;go_wp2_with fail;refine (ah.out _ f0).mono ?_;rintro _ w1 ⟨rfl,f1⟩;have bu:=bs.fr f1 zq;have al:=f0.trans f1 zr;clear bs f0 f1 ah
 by_cases hc0:EC=0
 case neg=>
  have hb:(EC !=0)=true:=by simpa using hc0
  have bb:=lh (a1.out EC w1 ((An4 (by rw [ba.out];exact hc0)).trans ba.out) hc0 al);clear hc0 a1 hP;go_wp2_with fail
  go_ret
  exact bb.out
 case pos=>
  subst hc0;go_upto_region 4 with (fail)
  obtain ⟨wd,bc⟩:=Ab w1.drew;have ay:Blk wd w.heap.size 52 CX:=by rw [<- bc.out];exact bu.drew
  have a6:Fr Non w wd:=by rw [<- bc.out];exact al.drew
  have bl:x.at wd wd.heap.size:=OpL.frame hat a6;have bv:w.heap.size<wd.heap.size:=ay.lt;apply An1
  case h=>
   intro bb;refine wp_region_held_drew (S:=fun w'=>Blk w' w.heap.size 52 CX) (by kernel_rfl) (by rw [bc.out];exact ay) (fun _=> ?_);rw [bc.out];refine tkH 0 ay (h:=?_);(try simp only [zl]);refine tkH 2 ay (h:=?_);(try simp only [zl]);refine wpAnyH_ready (rs:=[1,5]) (by kernel_rfl) (by simp) ?_;refine AllReadyH.cons rfl (fun K hK=> ?_) ?_
   ·
    refine K8 (by kernel_rfl) ?_;go_simp;go_wp2_with (go_at_call 74;(with_reducible refine (bj.out _ bl).mono ?_);rintro _ u1 ⟨y,rfl,ag,af,f1⟩);have a5:=ay.fr f1 zq;have a7:=OpL.frame bl f1;have al:=a6.trans f1 zr;refine hK.out _ _ a5 (fun _=> ?_);clear hK K;try simp only [Am,zl]
    refine wpAnyH_ready (rs:=[3,5]) (by kernel_rfl) (by simp) ?_;refine AllReadyH.cons rfl (fun K hK=> ?_) ?_
    ·
     refine K8 (by kernel_rfl) ?_;go_simp;go_wp2_with (go_at_call 26;(with_reducible refine (a2.out _ a7).mono ?_);rintro _ u2 ⟨rfl,f2⟩);have aj:=a5.fr f2 zq;have a4:=OpL.frame a7 f2;have a8:=al.trans f2 zr;refine hK.out _ _ aj (fun _=> ?_);clear hK K;try simp only [Am,zl]
     have bg:=fun w'=>bm.out y ui w';refine tkH 4 aj (h:=?_);(try simp only [zl]);clear bg;refine Dp 5 (by kernel_rfl) rfl (by kernel_rfl) (fun K hK=> ?_);go_simp;have b7:=Blk.new u2 134 zN;have bo:Fr Non u2 (u2.alloc (.cells zN 134)):=(Fr.refl Non _).alloc _;have ak:=aj.fr bo zq;have b2:=OpL.frame a4 bo;have bf:=a8.trans bo zr;refine hK.out _ _ ak (fun _=> ?_);clear hK K;try simp only [Am,zl]
     have bz:=b7;have ap:w.heap.size<=u2.heap.size:=a8.size;have av:w.heap.size≠u2.heap.size:=A67 aj.lt;have yo:=(af.non f2).non bo;have ad:w.heap.size<=wd.heap.size:=a6.size;refine Dp 6 (by kernel_rfl) rfl (by kernel_rfl) (fun K hK=> ?_);have aa:=Iy (⟨y,⟨x.by_,x.sq,ui⟩,0,0,0,0,1⟩:Aj);obtain ⟨NC,ac⟩:=Ab (⟨y,⟨x.by_,x.sq,ui⟩,0,0,0,0,1⟩:Aj).cells.toArray;have ae:(zp.info? 134).map (·.size)=some NC.size:=by rw [<- ac.out];exact bk
     have ab:NC.size=35:=by rw [<- ac.out];rfl
     rw [ac.out] at aa ⊢;refine Jw 134 (.tmp 6) (.tmp 32) (g:=u2.heap.size) (cs:=NC) rfl rfl (by rfl) (by rfl) bz ae ab.symm aa ?_;have a0:w.heap.size≠u2.heap.size:=av;have ai:=ak.setRow_far (cs:=NC) a0;have aw:=bz.setRow (cs:=NC);have ax:=bf.setRow (g:=u2.heap.size) (fun h=>absurd h (Nat.not_lt.2 ap)) NC;have au:=(yo.keepP ((Fr.refl (One (u2.heap.size)) (u2.alloc (.cells zN 134))).setRow (g:=u2.heap.size) (fun _=>rfl) NC) (Types.one bz) (by decide) (by decide) (by decide) (by decide) (by decide) (by decide) (by decide)).lower ad;have az:w.heap.size<u2.heap.size:=by omega
     refine hK.out _ _ ai (fun hzz=> ?_);clear hK K hzz;refine oD ?_;go_simp;clear a0 aa bz ap av ad yo af ae ab;revert au ax aw ai ag az;generalize (u2.alloc (.cells zN 134)).setRow (u2.heap.size) NC=wF;generalize u2.heap.size=gs;rw [<- ac.out];clear ac NC;revert wF gs y;exact bb
    refine AllReadyH.cons rfl (fun K hK=> ?_) AllReadyH.nil
    ·
     refine K8 (by kernel_rfl) ?_;go_simp;have b5:=Blk.new u1 134 zN;have bn:Fr Non u1 (u1.alloc (.cells zN 134)):=(Fr.refl Non _).alloc _;have aj:=a5.fr bn zq;have a4:=OpL.frame a7 bn;have a8:=al.trans bn zr;refine hK.out _ _ aj (fun _=> ?_);clear hK K;try simp only [Am,zl]
     refine Dp 3 (by kernel_rfl) rfl (by kernel_rfl) (fun K hK=> ?_);go_simp;go_wp2_with (go_at_call 26;(with_reducible refine (a2.out _ a4).mono ?_);rintro _ u3 ⟨rfl,f3⟩);have ak:=aj.fr f3 zq;have b2:=OpL.frame a4 f3;have bf:=a8.trans f3 zr;refine hK.out _ _ ak (fun _=> ?_);clear hK K;try simp only [Am,zl]
     have bg:=fun w'=>bm.out y ui w';refine tkH 4 ak (h:=?_);(try simp only [zl]);clear bg;have bz:=b5.fr f3 zq;have ap:w.heap.size<=u1.heap.size:=al.size;have av:w.heap.size≠u1.heap.size:=A67 a5.lt;have yo:=(af.non bn).non f3;have ad:w.heap.size<=wd.heap.size:=a6.size;refine Dp 6 (by kernel_rfl) rfl (by kernel_rfl) (fun K hK=> ?_);have aa:=Iy (⟨y,⟨x.by_,x.sq,ui⟩,0,0,0,0,1⟩:Aj);obtain ⟨NC,ac⟩:=Ab (⟨y,⟨x.by_,x.sq,ui⟩,0,0,0,0,1⟩:Aj).cells.toArray;have ae:(zp.info? 134).map (·.size)=some NC.size:=by rw [<- ac.out];exact bk
     have ab:NC.size=35:=by rw [<- ac.out];rfl
     rw [ac.out] at aa ⊢;refine Jw 134 (.tmp 6) (.tmp 32) (g:=u1.heap.size) (cs:=NC) rfl rfl (by rfl) (by rfl) bz ae ab.symm aa ?_;have a0:w.heap.size≠u1.heap.size:=av;have ai:=ak.setRow_far (cs:=NC) a0;have aw:=bz.setRow (cs:=NC);have ax:=bf.setRow (g:=u1.heap.size) (fun h=>absurd h (Nat.not_lt.2 ap)) NC;have au:=(yo.keepP ((Fr.refl (One (u1.heap.size)) (u3)).setRow (g:=u1.heap.size) (fun _=>rfl) NC) (Types.one bz) (by decide) (by decide) (by decide) (by decide) (by decide) (by decide) (by decide)).lower ad;have az:w.heap.size<u1.heap.size:=by omega
     refine hK.out _ _ ai (fun hzz=> ?_);clear hK K hzz;refine oD ?_;go_simp;clear a0 aa bz ap av ad yo af ae ab;revert au ax aw ai ag az;generalize (u3).setRow (u1.heap.size) NC=wF;generalize u1.heap.size=gs;rw [<- ac.out];clear ac NC;revert wF gs y;exact bb
   refine AllReadyH.cons rfl (fun K hK=> ?_) AllReadyH.nil
   ·
    refine K8 (by kernel_rfl) ?_;go_simp;have b3:=Blk.new wd 134 zN;have bp:Fr Non wd (wd.alloc (.cells zN 134)):=(Fr.refl Non _).alloc _;have a5:=ay.fr bp zq;have a7:=OpL.frame bl bp;have al:=a6.trans bp zr;refine hK.out _ _ a5 (fun _=> ?_);clear hK K;try simp only [Am,zl]
    refine Dp 1 (by kernel_rfl) rfl (by kernel_rfl) (fun K hK=> ?_);go_simp;go_wp2_with (go_at_call 74;(with_reducible refine (bj.out _ a7).mono ?_);rintro _ u2 ⟨y,rfl,ag,af,f2⟩);have aj:=a5.fr f2 zq;have a4:=OpL.frame a7 f2;have a8:=al.trans f2 zr;refine hK.out _ _ aj (fun _=> ?_);clear hK K;try simp only [Am,zl]
    refine Dp 3 (by kernel_rfl) rfl (by kernel_rfl) (fun K hK=> ?_);go_simp;go_wp2_with (go_at_call 26;(with_reducible refine (a2.out _ a4).mono ?_);rintro _ u3 ⟨rfl,f3⟩);have ak:=aj.fr f3 zq;have b2:=OpL.frame a4 f3;have bf:=a8.trans f3 zr;refine hK.out _ _ ak (fun _=> ?_);clear hK K;try simp only [Am,zl]
    have bg:=fun w'=>bm.out y ui w';refine tkH 4 ak (h:=?_);(try simp only [zl]);clear bg;have bz:Blk u3 wd.heap.size 134 zN:=(b3.fr f2 zq).fr f3 zq;have ap:w.heap.size<=wd.heap.size:=Nat.le_of_lt bv;have av:w.heap.size≠wd.heap.size:=A67 ay.lt;have yo:=af.non f3;have ad:w.heap.size<=(wd.alloc (.cells zN 134)).heap.size:=al.size;refine Dp 6 (by kernel_rfl) rfl (by kernel_rfl) (fun K hK=> ?_);have aa:=Iy (⟨y,⟨x.by_,x.sq,ui⟩,0,0,0,0,1⟩:Aj);obtain ⟨NC,ac⟩:=Ab (⟨y,⟨x.by_,x.sq,ui⟩,0,0,0,0,1⟩:Aj).cells.toArray;have ae:(zp.info? 134).map (·.size)=some NC.size:=by rw [<- ac.out];exact bk
    have ab:NC.size=35:=by rw [<- ac.out];rfl
    rw [ac.out] at aa ⊢;refine Jw 134 (.tmp 6) (.tmp 32) (g:=wd.heap.size) (cs:=NC) rfl rfl (by rfl) (by rfl) bz ae ab.symm aa ?_;have a0:w.heap.size≠wd.heap.size:=av;have ai:=ak.setRow_far (cs:=NC) a0;have aw:=bz.setRow (cs:=NC);have ax:=bf.setRow (g:=wd.heap.size) (fun h=>absurd h (Nat.not_lt.2 ap)) NC;have au:=(yo.keepP ((Fr.refl (One (wd.heap.size)) (u3)).setRow (g:=wd.heap.size) (fun _=>rfl) NC) (Types.one bz) (by decide) (by decide) (by decide) (by decide) (by decide) (by decide) (by decide)).lower ad;have az:w.heap.size<wd.heap.size:=by omega
    refine hK.out _ _ ai (fun hzz=> ?_);clear hK K hzz;refine oD ?_;go_simp;clear a0 aa bz ap av ad yo af ae ab;revert au ax aw ai ag az;generalize (u3).setRow (wd.heap.size) NC=wF;generalize wd.heap.size=gs;rw [<- ac.out];clear ac NC;revert wF gs y;exact bb
  case hp=>
   rename_i K hK;intro y wF gs ag ai aw ax au az;refine hK _ _ ?_;clear hK K;have H:AddS0 w wF base g x y gs ui:=⟨hg,hat,be.out,ba.out,bi.out,by rw [a9.out];exact ai,aw,az,ag,au,ax⟩;have b4:=a9.out;subst b4;clear hg hat hi bk ar b0 bm a1 a3 bi aq br bh bx bq e0 e2 a9 b6 be bt bd ba bw ay a6 bl bv bj a2 al bu bc ag ai aw ax au az;clear w0 w1 wd;revert H;revert base g x w ui y wF gs;exact hP.down)
end Oq
namespace Oq
attribute [local go_sem ↓] Bq Kr Ks Tu
attribute [local go_sem] A63 A64
def addB : PSigma (fun P : Prop => PLift P -> addA.1) := PSigma.mk _ (by
  intro hP;conv => whnf
  intro base g x w ui y wF gs H;obtain ⟨hg, hat, hok, hEC0, hui0, baF, bsF, hgw, hyop, yoF, frF⟩ := H;have hi : (zp.info? 52).map (·.size) = some 27 := by kernel_rfl
  have lpast : x.past.length <= 1000000 := by have h := hok.past.1; rw [show x.op.past = x.past from rfl] at h; omega
  have hlx := Be (P := zp) w.heap.size 52 underlying52 rfl (cs := x.cells) hi;have kcd := lh (fun w' (h : Fr Non w w') => Rb base g x.by_ w' (hg.fr h) hg.cfew);have kvr := lh (fun (c : Cd) (hc : c.s < 18446744073709551616) w' (h : x.at w' w'.heap.size) => Sj c.d c.m c.l c.k c.s x w' h hok hc);have klk := lh (fun w' (h : Fr Non w w') => Ko base g x w' Kq (hg.fr h) (OpL.frame hat h) (fun id hid => hok.past.2 id hid) lpast);have hbad := lh (fun (err : Int) (w' : World) (h : Au g.cards g.pns x.op = err) (h0 : err ≠ 0) (hf : Fr Non w w') => AddPost.bad (base := base) h h0 hf);have hu64 := N3 x.op
  have hname : Hid (x.op.name = ⟨x.by_, x.sq, ui⟩) := by
    show _ = _;unfold Op.name;rw [hui0];rfl
  have hplc : Hid (plc g.pns x.op.name = place g.nodes ⟨x.by_, x.sq, ui⟩) := by
    show _ = _;rw [hname.out];exact Gv _ _
  rw [hui0] at hu64;have hidok : (Id.mk x.by_ x.sq ui).ok := ⟨hok.by_, hok.sq, hu64⟩;obtain ⟨CX, hCX⟩ := Ab x.cells;have e0 : Hid (CX[0]? = some (.int .i64 x.by_)) := by show _ = _; rw [<- hCX.out]; rfl
  have e2 : Hid (CX[2]? = some (.int .i64 x.kind)) := by show _ = _; rw [<- hCX.out]; rfl
  rw [hCX.out] at baF hlx kvr klk ⊢;have hok' := lh hok;have hEC := lh hEC0;have hui := lh hui0;have hyop' := lh hyop;unfold Iq at kcd;unfold Ae at kvr;clear hok hEC0 hui0 hyop;have yo0 := yoF;have n1 : wF.cell? ⟨gs, 27, none⟩ = some (.int .i64 x.by_) := bsF.cell 27;have n2 : wF.cell? ⟨gs, 28, none⟩ = some (.int .i64 x.sq) := bsF.cell 28;have n3 : wF.cell? ⟨gs, 29, none⟩ = some (.int .u64 (ui : Int)) := bsF.cell 29;have hgF := hg.fr frF;have c1 : wF.cell? ⟨g.gb, 1, none⟩ = some (.map (some g.mb)) := hgF.blk.cell 1;have hmap := hgF.map;have hlook : ∀ w', MapAt w' g.mb g.mm (place g.nodes) -> (Instr.lookup 126 (.map (some g.mb)) (.agg #[.int .i64 x.by_, .int .i64 x.sq, .int .u64 (ui : Int)]) true).run zp w' = .ok (.tuple #[.int .i64 (((place g.nodes ⟨x.by_, x.sq, ui⟩).getD 0 : Nat) : Int), .bool (place g.nodes ⟨x.by_, x.sq, ui⟩).isSome]) w' := fun w' h => MapAt.look h _ hidok;go_upto_region 5 with (fail)
  clear hgF
  cases hp : place g.nodes ⟨x.by_, x.sq, ui⟩
  case some i =>
    rw [hp] at hlook;have hfin := lh (fun w' h => hbad.out 5 w' (An5 hEC.out (by rw [hplc.out, hp]; rfl)) (by decide) h);clear hp hplc hbad hP kcd kvr klk
    as_aux_lemma =>
    refine wp_region_held_drew (S := (fun w' => w'.cell? ⟨gs, 27, none⟩ = some (.int .i64 x.by_) /\ w'.cell? ⟨gs, 28, none⟩ = some (.int .i64 x.sq) /\ w'.cell? ⟨gs, 29, none⟩ = some (.int .u64 (ui : Int)) /\ w'.cell? ⟨g.gb, 1, none⟩ = some (.map (some g.mb)) /\ MapAt w' g.mb g.mm (place g.nodes))) (by kernel_rfl) ⟨n1, n2, n3, c1, hmap⟩ (fun hS=> ?_);replace frF := frF.drew;refine tkH 0 hS (h:=tkH 1 hS (h:=tkH 2 hS (h:=tkH 3 hS (h:=tkH 4 hS (h:=tkH 5 hS (h:=tkH 6 hS (h:=tkH 7 hS (h:=tkH 8 hS (h:=tkH 9 hS (h:=tkH 10 hS (h:=tkH 11 hS (h:=?_))))))))))));simp only [zl];refine wpAnyH_done (by kernel_rfl) ?_ _;go_simp;go_wp2_with fail
    go_ret
    exact hfin.out _ frF
  case none =>
    rw [hp] at hlook;have hnew : Hid (plc g.pns x.op.name = none) := by show _ = _; rw [hplc.out, hp]
    clear hp hplc;refine wp_region_held_drew (S := (fun w' => w'.cell? ⟨gs, 27, none⟩ = some (.int .i64 x.by_) /\ w'.cell? ⟨gs, 28, none⟩ = some (.int .i64 x.sq) /\ w'.cell? ⟨gs, 29, none⟩ = some (.int .u64 (ui : Int)) /\ w'.cell? ⟨g.gb, 1, none⟩ = some (.map (some g.mb)) /\ MapAt w' g.mb g.mm (place g.nodes))) (by kernel_rfl) ⟨n1, n2, n3, c1, hmap⟩ (fun hS=> ?_);replace frF := frF.drew;refine tkH 0 hS (h:=tkH 1 hS (h:=tkH 2 hS (h:=tkH 3 hS (h:=tkH 4 hS (h:=tkH 5 hS (h:=tkH 6 hS (h:=tkH 7 hS (h:=tkH 8 hS (h:=tkH 9 hS (h:=tkH 10 hS (h:=tkH 11 hS (h:=?_))))))))))));simp only [zl];refine wpAnyH_done (by kernel_rfl) ?_ _;go_simp;clear hlook hS;replace baF : Blk wF.drew w.heap.size 52 CX := baF.drew;replace bsF := bsF.drew;replace yoF := yo0.non ((Fr.refl Non wF).drew);clear n1 n2 n3 c1 hmap yo0;generalize wF.drew = w2 at *;have hg2 := hg.fr frF;have c2 : w2.cell? ⟨g.gb, 2, none⟩ = some (.slice g.nA g.nodes.length g.nC) := hg2.blk.cell 2;have hlen : Hid (g.pns.length = g.nodes.length) := by show _ = _; unfold Gph.pns; rw [A61]
    obtain ⟨nn, hnn⟩ := Ab g.nodes.length;rw [hnn.out] at c2 hlen;clear hg2
    by_cases hfull : 200 <= nn
    case pos =>
      have hb : decide ((200 : Int) <= (nn : Int)) = true := by rw [decide_eq_true_iff]; omega
      have hfin := lh (hbad.out 3 w2 (An6 hEC.out hnew.out (by rw [hlen.out]; exact hfull)) (by decide) frF);clear hbad hP kcd kvr klk hfull
      as_aux_lemma =>
      go_wp2_with fail
      go_ret
      exact hfin.out
    case neg =>
      have hb : decide ((200 : Int) <= (nn : Int)) = false := by rw [decide_eq_false_iff_not]; omega
      have hrest := lh (An7 (cards := g.cards) hEC.out hnew.out (by rw [hlen.out]; omega));have hfew : Hid (nn < 200) := by show _ < _; omega
      clear hfull;have x0 : w2.cell? ⟨w.heap.size, 0, none⟩ = some (.int .i64 x.by_) := (baF.cell 0).trans e0.out;have kc1 := lh (kcd.out w2 frF);clear kcd;have hcard : Hid (Ev g.cards x.op.by_ = g.card x.by_) := rfl
      cases hcd : g.card x.by_
      case none =>
        rw [hcd] at kc1;have hfin := lh (fun w' h => hbad.out 17 w' (by rw [hrest.out, hcard.out, hcd]) (by decide) h);clear hrest hcard hcd hbad hP kvr klk
        as_aux_lemma =>
        have kc2 : Hid (Calls zp 89 #[.pointer (some ⟨g.gb, 0, none⟩), .int .i64 x.by_] w2 fun e w' => e = .returned (.tuple #[.agg #[.int .i64 0, .int .i64 0, .int .u64 0, .int .u64 0, .int .u64 0], .bool false]) /\ Fr Non w2 w') := kc1.out;clear kc1;go_upto_region 11 with (go_at_call 89; (with_reducible refine (kc2.out).mono ?_); rintro _ w3 ⟨rfl, f3⟩)
        have hfin2 := lh (fun w' h => hfin.out w' ((frF.trans f3 (fun _ _ e => e)).trans h (fun _ _ e => e)));go_wp2_with fail
        go_ret
        exact hfin2.out _ ((Fr.refl Non w3).alloc _)
      case some c =>
        have hcdf : g.cards.find? (fun c => c.d == x.by_) = some c := hcd;have hcm := List.mem_of_find?_eq_some hcdf;have hdd : (c.d == x.by_) = true := by have h := List.find?_some hcdf; exact h
        have hcd' : c.d = x.by_ := by simpa using hdd
        rw [hcd] at kc1;have hcs := hg.cok c hcm
        have hrest2 : Hid (Au g.cards g.pns x.op = if Sg.check c.s x.op.bare x.op.r x.op.s = false then 12
              else if x.op.kind = 1 /\ g.pns ≠ [] then 1
              else if x.op.past.any (fun id => (plc g.pns id).isNone) = true then 10
              else if clash g.pns x.op.past = true \/ x.op.at_ < late g.pns x.op.past then 6
              else if Cu g.pns (Ak g.pns x.op.past) x.op = true then 11
              else 0) := by show _ = _; rw [hrest.out, hcard.out, hcd]
        have kv1 := lh (kvr.out c hcs);clear hrest hcard hcd kvr hcm hdd hcdf;rw [show (x.by_ == c.d) = true by rw [hcd']; simp, Bool.true_and] at kv1;have kc2 : Hid (Calls zp 89 #[.pointer (some ⟨g.gb, 0, none⟩), .int .i64 x.by_] w2 fun e w' => e = .returned (.tuple #[.agg #[.int .i64 c.d, .int .i64 c.m, .int .u64 (c.l : Int), .int .u64 (c.k : Int), .int .u64 (c.s : Int)], .bool true]) /\ Fr Non w2 w') := kc1.out;clear kc1 hcd' hcs;obtain ⟨sb, hsb⟩ := Ab (Sg.check c.s x.op.bare x.op.r x.op.s);rw [hsb.out] at hrest2;rw [show Sg.check c.s x.op.bare x.r x.s = sb from hsb.out] at kv1;clear hsb;go_upto_region 11 with (go_at_call 89; (with_reducible refine (kc2.out).mono ?_); rintro _ w3 ⟨rfl, f3⟩)
        have f4 : Fr Non w2 (w3.alloc (.cells #[.int .i64 c.d, .int .i64 c.m, .int .u64 (c.l : Int), .int .u64 (c.k : Int), .int .u64 (c.s : Int)] 141)) := f3.alloc _;have bcd := Blk.new w3 141 #[.int .i64 c.d, .int .i64 c.m, .int .u64 (c.l : Int), .int .u64 (c.k : Int), .int .u64 (c.s : Int)];have baG := baF.fr f4 (fun e => e);have bsG := bsF.fr f4 (fun e => e);have yoG := yoF.non f4;have frG := frF.trans f4 (fun _ _ e => e);obtain ⟨gc, hgc⟩ := Ab w3.heap.size;rw [hgc.out] at bcd ⊢;generalize w3.alloc (.cells #[.int .i64 c.d, .int .i64 c.m, .int .u64 (c.l : Int), .int .u64 (c.k : Int), .int .u64 (c.s : Int)] 141) = w4 at *;have m0 : w4.cell? ⟨gc, 0, none⟩ = some (.int .i64 c.d) := bcd.cell 0;have m1 : w4.cell? ⟨gc, 1, none⟩ = some (.int .i64 c.m) := bcd.cell 1;have m2 : w4.cell? ⟨gc, 2, none⟩ = some (.int .u64 (c.l : Int)) := bcd.cell 2;have m3 : w4.cell? ⟨gc, 3, none⟩ = some (.int .u64 (c.k : Int)) := bcd.cell 3;have m4 : w4.cell? ⟨gc, 4, none⟩ = some (.int .u64 (c.s : Int)) := bcd.cell 4;have kv2 := lh (kv1.out w4 (OpL.frame hat frG));clear kv1 bcd baF bsF yoF frF f3 f4 hgc x0 kc2
        cases sb
        case false =>
          have hfin := lh (fun w' h => hbad.out 12 w' (by rw [hrest2.out, if_pos rfl]) (by decide) h);clear hrest2 hbad hP klk
          as_aux_lemma =>
          go_wp2_with (go_at_call 90; (with_reducible refine (kv2.out).mono ?_); rintro _ w5 ⟨rfl, f5⟩)
          go_ret
          exact hfin.out _ (frG.trans f5 (fun _ _ e => e))
        case true =>
          have hrest3 : Hid (Au g.cards g.pns x.op = if x.op.kind = 1 /\ g.pns ≠ [] then 1
                else if x.op.past.any (fun id => (plc g.pns id).isNone) = true then 10
                else if clash g.pns x.op.past = true \/ x.op.at_ < late g.pns x.op.past then 6
                else if Cu g.pns (Ak g.pns x.op.past) x.op = true then 11
                else 0) := by show _ = _; rw [hrest2.out, if_neg (by decide)]
          clear hrest2;go_upto_region 15 with (go_at_call 90; (with_reducible refine (kv2.out).mono ?_); rintro _ w5 ⟨rfl, f5⟩)
          have frH := frG.trans f5 (fun _ _ e => e);have baH := baG.fr f5 (fun e => e);have bsH := bsG.fr f5 (fun e => e);have yoH := yoG.non f5;clear kv2 baG bsG yoG frG f5 m0 m1 m2 m3 m4;have c2' : w5.cell? ⟨g.gb, 2, none⟩ = some (.slice g.nA nn g.nC) := by rw [<- hnn.out]; exact (hg.fr frH).blk.cell 2
          have x2 : w5.cell? ⟨w.heap.size, 2, none⟩ = some (.int .i64 x.kind) := (baH.cell 2).trans e2.out;obtain ⟨kb, hkb⟩ := Ab (x.kind == 1 && decide ((0 : Int) < (nn : Int)));clear c2
          go_cut [6, 73] from 5 (fun n s wc => w5 = wc /\ n = .pointer (some ⟨gs, 0, none⟩) /\ s = .bool kb)
          case first =>
            clear hbad hP klk hrest3
            as_aux_lemma =>
            rcases A71 (x.kind == 1) with t1 | t1
            · have hv : Hid (decide ((0 : Int) < (nn : Int)) = kb) := by show _ = _; rw [<- hkb.out, t1]; rfl
              go_wp2_with fail;go_meet;exact ⟨rfl, rfl, congrArg Value.bool (by rw [<- hv.out]; exact decide_eq_decide.2 (by omega))⟩
            · have hv : Hid (false = kb) := by show _ = _; rw [<- hkb.out, t1]; rfl
              go_wp2_with fail;go_meet;exact ⟨rfl, rfl, hB hv⟩
          case rest =>
          obtain ⟨rfl, rfl, rfl⟩ := hcut
          cases kb
          case true =>
            have hfin := lh (fun w' h => hbad.out 1 w' (by
              have h1 := hkb.out;rw [A68, beq_iff_eq, decide_eq_true_iff] at h1;rw [hrest3.out, if_pos ⟨h1.1, fun e => by have h2 := hlen.out; rw [e] at h2; simp at h2; omega⟩]) (by decide) h)
            clear hrest3 hbad hP klk
            as_aux_lemma =>
            go_wp2_with fail
            go_ret
            exact hfin.out _ frH
          case false =>
            have hrest4 : Hid (Au g.cards g.pns x.op = if x.op.past.any (fun id => (plc g.pns id).isNone) = true then 10
                else if clash g.pns x.op.past = true \/ x.op.at_ < late g.pns x.op.past then 6
                else if Cu g.pns (Ak g.pns x.op.past) x.op = true then 11
                else 0) := by
              show _ = _;have h1 := hkb.out;rw [Bool.and_eq_false_iff, beq_eq_false_iff_ne, decide_eq_false_iff_not] at h1
              rw [hrest3.out, if_neg (fun e => by
                rcases h1 with h1 | h1
                · exact h1 e.1
                · refine e.2 (List.eq_nil_of_length_eq_zero ?_)
                  rw [hlen.out];omega)]
            clear hrest3;have kl := lh (klk.out w5 frH);clear klk;have hany := lh (An8 g x.past);unfold H6 at kl;obtain ⟨m, hm⟩ := Ab (x.past.filter (fun id => !(place g.nodes id).isSome)).length;rw [hm.out] at kl hany
            by_cases hm0 : m = 0
            case neg =>
              have hb0 : decide (0 < m) = true := by rw [decide_eq_true_iff]; omega
              have hfin := lh (fun w' h => hbad.out 10 w' (by
                rw [hrest4.out, if_pos (by
                  rcases A71 (x.op.past.any (fun id => (plc g.pns id).isNone)) with e | e
                  · exact e
                  · exact absurd (hany.out.2 e) hm0)]) (by decide) h)
              clear hrest4 hbad hP hm0
              as_aux_lemma =>
              go_wp2_with (go_at_call 42; (with_reducible refine (kl.out).mono ?_); rintro _ w6 ⟨A6, c6, rfl, r6, f6⟩)
              go_ret
              exact hfin.out _ (frH.trans f6 (fun _ _ e => e))
            case pos =>
              have hb0 : decide (0 < m) = false := by rw [decide_eq_false_iff_not]; omega
              have hall : Hid (x.op.past.any (fun id => (plc g.pns id).isNone) = false) := by
                exact hany.out.1 hm0
              have hrest5 : Hid (Au g.cards g.pns x.op = if clash g.pns x.op.past = true \/ x.op.at_ < late g.pns x.op.past then 6
                else if Cu g.pns (Ak g.pns x.op.past) x.op = true then 11
                else 0) := by
                show _ = _;rw [hrest4.out, if_neg (by rw [hall.out]; decide)]
              clear hrest4 hany hm0;go_upto_region 19 with (go_at_call 42; (with_reducible refine (kl.out).mono ?_); rintro _ w6 ⟨A6, c6, rfl, r6, f6⟩)
              rename_i K hK;have H : N2 w w6 base g x y gs := ⟨hg, hat, hok'.out, by rw [hCX.out]; exact baH.fr f6 (fun e => e), by rw [hname.out]; exact bsH.fr f6 (fun e => e), hgw, hyop'.out, yoH.non f6, frH.trans f6 (fun _ _ e => e), hEC.out, by rw [hnn.out]; exact hfew.out, hall.out, hnew.out, hrest5.out⟩;have hcx := hCX.out;subst hcx;try clear hg
              try clear hat
              try clear hi
              try clear hlx
              try clear hbad
              try clear hu64
              try clear hname
              try clear hplc
              try clear hidok
              try clear e0
              try clear e2
              try clear hCX
              try clear hok'
              try clear hEC
              try clear hui
              try clear hyop'
              try clear hall
              try clear hrest5
              try clear kl
              try clear hb
              try clear hb0
              try clear hfew
              try clear hlen
              try clear hnn
              try clear hnew
              try clear baH
              try clear bsH
              try clear yoH
              try clear frH
              try clear c2'
              try clear x2
              try clear r6
              try clear f6
              try clear hkb
              try clear hm
              try clear hrest4
              try clear hany
              try clear hm0
              try clear wF
              try clear w2
              try clear w3
              try clear w4
              try clear hnn
              try clear nn
              try clear ui
              try clear c
              try clear gc
              try clear hui
              try clear hbad
              try clear hP0
              revert H;revert hK;revert base g x w y gs K A6 c6 m w6;revert u5 u7 u8 u9 u10 u11 u12 u13 u14 u15 u16 u17 u18 u19 u20 u21 u22 u23 u24 u25 u26 u27 u28 u29 u30 u31 u32 u33 u34 u35 u36 u37 u38 u39 u40 u41 u42 u43 u44 u45 u46 u47 u48 u49 u50 u51 u52 u53 u54 u55 u56 u57 u58 u59 u60 u61 u62 u63 u64 u65 u66 u67 u68 u69 u70 u71 u72 u79 u80 u81 u82 u83 u84 u85 u86 u87 u88 u89 u90 u91 u92 u93 u94 u95 u96 u97 u98 u99 u100 u101 u102 u103 u104 u105 u106 u107 u108 u109 u110 u111 u112 u113 u114 u115 u116 u117 u118 u119 u120 u121 u122 u123 u124 u125 u126 u127 u128 u129 u130 u131 u132 u133 u134 u135 u136 u137 u138 u139 u140 u141 u142 u143 u144 u145 u146 u147 u148 u149 u150 u151 u152 u153 u154 u155 u156 u157 u158 u159 u160 u161 u162 u163 u164 u165 u166 u167 u168 u169 u170 u171 u172 u173 u174 u175 u176 u177 u178 u179 u180 u181 u182 u183 u184 u185 u186 u187 u188 u189 u190 u191 u192 u193 u194 u195 u196 u197 u198 u199 u200 u201 u202 u203 u204 u205 u206 u207 u208 u209 u210 u211 u212 u213 u214 u215 u216 u217 u218 u219 u220 u221 u222 u223 u224 u225 u226 u227 u228 u229 u230 u231 u232 u233;exact hP.down)
end Oq
section
open Go.RowKit Go.Sort
namespace Oq
theorem Picked.from {g:Gph} {p:Nat->Bool} {w0 w:World} {e:Ending} {w':World} (h:Picked g p w e w') (hf:Fr Non w0 w):Picked g p w0 e w':=by
 obtain ⟨A,c,ids,h1,h2,h3,h4,h5⟩:=h;exact ⟨A,c,ids,h1,h2,h3,h4.lower hf.size,hf.trans h5 zr⟩
theorem An9 (i:Nat) (w:World):Calls zp 96 #[.int .i64 (i:Int)] w (Ae true w):=by
 go_enter func96,ntmps96;go_wp2
 go_ret
 exact ⟨rfl,Fr.refl _ _⟩
theorem Tw (base:Nat) (g:Gph) (w:World) (hsort:Ny) (hg:GAt w base g):Calls zp 45 #[.pointer (some ⟨g.gb,0,none⟩)] w (Picked g (fun _=>true) w):=by
 have k:=lh (Ah0 base g 96 #[] #[] (fun _=>true) w hsort hg (enters_of func96 (by kernel_rfl) rfl) (fun w' i _ _=>An9 i w'));have hfin:Hid (∀e w',Picked g (fun _=>true) w e w'->Picked g (fun _=>true) w e w'):=fun _ _ h=>h;clear hg hsort;go_enter func45,ntmps45;go_wp2_with fail;refine (k.out).mono ?_;rintro _ w1 ⟨A,c,ids,rfl,h2,h3,h4,h5⟩;have hd:=lh (hfin.out _ _ ⟨A,c,ids,rfl,h2,h3,h4,h5⟩);clear hfin h2 h3 h4 h5 k;go_wp2_with fail
 go_ret
 exact hd.out
end Oq
end
section
open Go.RowKit Go.Sort Go.Shelf
namespace Oq
instance:Inhabited Id:=⟨⟨0,0,0⟩⟩
theorem Tx (xs:List Id) {j:Nat} (hj:j<xs.length*3):(xs.flatMap Id.cells)[j]? =some ((flatK Id.cells 3 xs.toArray)[j]!):=by
 rw [get_flatK _ _ _ _ (by simpa using hj)];have hk:j/3<xs.length:=by omega
 have h1:xs[j/3]? =some xs[j/3]:=A62 hk;have h2:=G7 (f:=Id.cells) (size:=3) (fun _=>rfl) xs (j/3) (j%3) _ h1 (by omega);rw [show j/3*3+j%3=j by omega] at h2;rw [h2];have h3:xs.toArray[j/3]! =xs[j/3]:=by simp [hk]
 rw [h3];have h4:j%3<(Id.cells xs[j/3]).length:=by show _<3;omega
 rw [A62 h4];simp [h4]
theorem Ty {w:World} {base n c:Nat} {t:TypeId} {g:Nat} {l:List Value} {size:Nat} (h:Own w base t size (some ⟨g,0,none⟩) n c l) (hn:0<n):
  ∃cur,Blk w g t cur/\cur.toList.take (n*size)=l/\n*size<=cur.size:=by
 rcases h.2 with ⟨_,h0⟩|⟨g',cap,cur,hv,hb,hg,h1,h2,h3,h4⟩
 · omega
 ·
  injection hv with hA hn' hc
  injection hA with hA
  injection hA with hA
  subst hA;refine ⟨cur,hg,h4,?_⟩;have h5:=congrArg List.length h4;rw [A72,A73,h.1] at h5;omega
theorem Ao0 {w:World} {base c:Nat} {t:TypeId} {g:Nat} {xs:List Id} (h:Own w base t 3 (some ⟨g,0,none⟩) xs.length c (xs.flatMap Id.cells)):HoldsK Id.cells 3 w g 0 xs.toArray:=by
 intro j hj;have hj':j<xs.length*3:=by simpa using hj
 obtain ⟨cur,hb,hl,hs⟩:=Ty h (by omega);have hf:=Tx xs hj';rw [Nat.zero_add];refine ⟨?_,hb.frozen j⟩;rw [hb.cell j,id,<- hf,<- hl,A74 hj'];simp
theorem Tz {w:World} {t:TypeId} {g n:Nat} {cur:Array Value} {d:Array Value} {os:Array Obj} (h:Blk w g t cur):
  Blk (grow (putRow id (Sort.ahead w n) g 0 d) os) g t (putCells id 0 d cur):=by
 have hlt:=h.lt;unfold Blk at*;unfold grow putRow mapBlock Sort.ahead;simp only;rw [A75 (by simpa using hlt),A76,if_pos rfl,h];rfl
theorem T0 (w:World) (g n:Nat) (d:Array Value) (os:Array Obj):Fr (One g) w (grow (putRow id (Sort.ahead w n) g 0 d) os):=by
 refine ⟨rfl,rfl,rfl,?_,?_⟩
 · simp [grow,putRow,mapBlock,Sort.ahead]
 ·
  intro k hk hne;unfold grow putRow mapBlock Sort.ahead;simp only;rw [A75 (by simpa using hk),A76,if_neg (fun e=>hne e.symm)]
theorem T2 {d cur:Array Value} {l:List Value} (hd:d.size=l.length) (hl:∀j,j<l.length->l[j]? =some d[j]!) (hs:l.length<=cur.size):(putCells id 0 d cur).toList.take l.length=l:=by
 apply List.ext_getElem?;intro j
 by_cases hj:j<l.length
 ·
  rw [A74 hj,hl j hj];have hc:j<cur.size:=by omega
  have hjd:j<d.size:=by omega
  simp [putCells,hc,hjd]
 · rw [List.getElem?_take_eq_none (by omega),List.getElem?_eq_none (by omega)]
theorem Ao1 {w:World} {base c:Nat} {t:TypeId} {g:Nat} {xs ys:List Id} (n:Nat) (os:Array Obj) (h:Own w base t 3 (some ⟨g,0,none⟩) xs.length c (xs.flatMap Id.cells)) (hx:0<xs.length) (hl:ys.length=xs.length):
  Own (sortWorldK Id.cells 3 w g 0 n ys.toArray os) base t 3 (some ⟨g,0,none⟩) ys.length c (ys.flatMap Id.cells):=by
 have hyl:(ys.flatMap Id.cells).length=ys.length*3:=Er (f:=Id.cells) (fun _=>rfl) ys
 rcases h.2 with ⟨_,h0⟩|⟨g',cap,cur,hv,hb,hg,h1,h2,h3,h4⟩
 · omega
 ·
  injection hv with hA hn' hc
  injection hA with hA
  injection hA with hA
  subst hA;subst hc
  have hs:xs.length*3<=cur.size:=by
   have h5:=congrArg List.length h4;rw [A72,A73,h.1] at h5;omega
  have hnew:=Tz (n:=n) (os:=os) (d:=flatK Id.cells 3 ys.toArray) (show Blk w g t cur from hg);refine ⟨hyl,.inr ⟨g,c,putCells id 0 (flatK Id.cells 3 ys.toArray) cur,rfl,hb,hnew,by omega,h2,?_,?_⟩⟩
  · simpa [putCells] using h3
  ·
   rw [<- hyl];exact T2 (by rw [hyl];simp) (fun j hj=>Tx ys (by omega)) (by omega)
