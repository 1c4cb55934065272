/-
  Contracts of the functions that the claim's statement reaches, walked one by one (part 12).
  Conditions: as each theorem says.
-/
import Derived.Test.YtgbdljlapmjmnaaGreatDoorRlB9
import Derived.Test.YtgbdljlapmjmnaaGreatDoorRlB11
set_option maxRecDepth 100000
set_option maxHeartbeats 16000000
open Bool renaming eq_iff_iff->As9,and_assoc->At0,not_not->At4
open List renaming length_map->At1,take_succ_cons->At2,getElem?_eq_getElem->At3,take_of_length_le->At5,getElem?_map->At6
open Go.Proofs.Tryz
open Go.Proofs.Tryz renaming prog->zp
open Go.Lib renaming hid->lh
open List renaming set->zl
open Go.Ending renaming returned->ze
namespace Go.Proofs.YtgbdljlapmjmnaaGreatDoor
attribute [local go_sem ↓] Go.wp_at_zero Go.wp_at_succ
namespace Oq
def kindsN:List Nat:=[0,2064,32793,21,16,12,480,640,512,31744,8704,8705,512,33299]
theorem Ad8:∀k,k<14->kindsN.getD k 0<65536:=by decide
def Bg (k:Int) (j:Nat):Bool:=match j with
 |0=>k==2||k==3||k==11||k==13
 |1=>k==13
 |2=>k==3||k==5
 |3=>k==2||k==5
 |4=>Fk k
 |5=>k==6
 |6=>k==6
 |7=>k==6||k==7
 |8=>k==6
 |9=>Fq k
 |10=>k==9
 |11=>k==9||k==1
 |12=>k==9
 |13=>k==9||k==10||k==11
 |14=>k==9
 |15=>k==2||k==13
 |_=>false
theorem Ry:∀k,k<14->1<=k->∀j,j<16->(kindsN.getD k 0).testBit j=Bg (k:Int) j:=by decide+kernel
theorem Ad9 (x:OpL):x.op.bareB=((!x.presB 0||Bg x.kind 0)&&(!x.presB 1||Bg x.kind 1)&&(!x.presB 2||Bg x.kind 2)&&(!x.presB 3||Bg x.kind 3)&&(!x.presB 4||Bg x.kind 4)&&(!x.presB 5||Bg x.kind 5)&&(!x.presB 6||Bg x.kind 6)&&(!x.presB 8||Bg x.kind 8)&&(!x.presB 7||Bg x.kind 7)&&(!x.presB 9||Bg x.kind 9)&&(!x.presB 10||Bg x.kind 10)&&(!x.presB 12||Bg x.kind 12)&&(!x.presB 14||Bg x.kind 14)&&(!x.presB 11||Bg x.kind 11)&&(!x.presB 13||Bg x.kind 13)&&(!x.presB 15||Bg x.kind 15)):=by
 have e:∀{α:Type} (l:List α),l.isEmpty=!decide (0<l.length):=fun l=>by cases l<;>simp
 have n:∀a:Int,(a==0)=!(a !=0):=fun a=>by rw [bne,At4]
 have z:(x.pub==0)=!((x.pub:Int) !=0):=by rw [bne,At4,As9];simp
 have i:∀y:Id,Id.eq y Id.zero=!(!Id.eq y Id.zero):=fun y=>by rw [At4]
 unfold Op.bareB
 rw [show x.op.dev=x.dev from rfl,show x.op.old=x.old from rfl,show x.op.mem=x.mem from rfl,show x.op.role=x.role from rfl,show x.op.path=x.path.map NdL.nd from rfl,show x.op.epoch=x.epoch from rfl,show x.op.n=x.n from rfl,show x.op.refs=x.refs from rfl,show x.op.body=x.body from rfl,show x.op.of=x.of from rfl,show x.op.guards=x.guards from rfl,show x.op.wait=x.wait from rfl,show x.op.pub=x.pub from rfl,show x.op.need=x.need from rfl,show x.op.boxes=x.boxes from rfl,show x.op.hist=x.hist.map SlL.sl from rfl,show x.op.kind=x.kind from rfl,
  e (x.path.map NdL.nd),e (x.hist.map SlL.sl),At1,At1,e x.refs,e x.body,e x.guards,e x.boxes,n x.dev,n x.old,n x.mem,n x.role,n x.n,n x.wait,n x.need,z,i x.epoch,i x.of]
 simp only [OpL.presB,Bg,Bool.or_assoc]
theorem Ae0 (x:OpL) (k:Nat) (hk:x.kind=(k:Int)) (h1:1<=k) (h2:k<14):(∀j,x.presB j=true->(kindsN.getD k 0).testBit j=true)<->x.op.bareB=true:=by
 rw [Ad9,hk];have ha:=Ry k h2 h1
 have key:∀j,j<16->((!x.presB j||Bg (k:Int) j)=true<->(x.presB j=true->(kindsN.getD k 0).testBit j=true)):=fun j hj=>by
  rw [ha j hj]
  cases x.presB j<;>simp
 simp only [Bool.and_eq_true];rw [key 0 (by decide),key 1 (by decide),key 2 (by decide),key 3 (by decide),key 4 (by decide),key 5 (by decide),key 6 (by decide),key 7 (by decide),key 8 (by decide),key 9 (by decide),key 10 (by decide),key 11 (by decide),key 12 (by decide),key 13 (by decide),key 14 (by decide),key 15 (by decide)];constructor
 ·
  intro h;exact ⟨⟨⟨⟨⟨⟨⟨⟨⟨⟨⟨⟨⟨⟨⟨h 0,h 1⟩,h 2⟩,h 3⟩,h 4⟩,h 5⟩,h 6⟩,h 8⟩,h 7⟩,h 9⟩,h 10⟩,h 12⟩,h 14⟩,h 11⟩,h 13⟩,h 15⟩
 ·
  rintro ⟨⟨⟨⟨⟨⟨⟨⟨⟨⟨⟨⟨⟨⟨⟨a0,a1⟩,a2⟩,a3⟩,a4⟩,a5⟩,a6⟩,a8⟩,a7⟩,a9⟩,a10⟩,a12⟩,a14⟩,a11⟩,a13⟩,a15⟩ j hj
  match j,hj with
  |0,hj=>exact a0 hj
  |1,hj=>exact a1 hj
  |2,hj=>exact a2 hj
  |3,hj=>exact a3 hj
  |4,hj=>exact a4 hj
  |5,hj=>exact a5 hj
  |6,hj=>exact a6 hj
  |7,hj=>exact a7 hj
  |8,hj=>exact a8 hj
  |9,hj=>exact a9 hj
  |10,hj=>exact a10 hj
  |11,hj=>exact a11 hj
  |12,hj=>exact a12 hj
  |13,hj=>exact a13 hj
  |14,hj=>exact a14 hj
  |15,hj=>exact a15 hj
  |n+16,hj=>rw [Mm x (n+16) (by omega)] at hj;cases hj
theorem Ae1 (x:OpL):x.itemsL=x.op.itemsB:=by
 unfold Op.itemsB OpL.itemsL;rw [show x.op.guards=x.guards from rfl,show x.op.refs=x.refs from rfl,show x.op.past=x.past from rfl,show x.op.path=x.path.map NdL.nd from rfl,show x.op.boxes=x.boxes from rfl,show x.op.hist=x.hist.map SlL.sl from rfl,List.all_map,List.all_map];simp only [At0];rfl
theorem Ae2 (x:OpL) (k:Nat) (h1:1<=k) (h2:k<14):x.loopB (kindsN.getD k 0)=((!Bg k 0||x.mayB 0)&&((!Bg k 1||x.mayB 1)&&((!Bg k 2||x.mayB 2)&&((!Bg k 3||x.mayB 3)&&((!Bg k 5||x.mayB 5)&&((!Bg k 6||x.mayB 6)&&((!Bg k 9||x.mayB 9)&&((!Bg k 11||x.mayB 11)&&((!Bg k 12||x.mayB 12)&&(!Bg k 14||x.mayB 14)))))))))):=by
 have ha:=Ry k h2 h1;unfold OpL.loopB;rw [show List.range 16=[0,1,2,3,4,5,6,7,8,9,10,11,12,13,14,15] from rfl];simp only [List.all_cons,List.all_nil]
 rw [ha 0 (by decide),ha 1 (by decide),ha 2 (by decide),ha 3 (by decide),ha 5 (by decide),ha 6 (by decide),ha 9 (by decide),ha 11 (by decide),ha 12 (by decide),ha 14 (by decide),
  show x.mayB 4=true from rfl,show x.mayB 7=true from rfl,show x.mayB 8=true from rfl,show x.mayB 10=true from rfl,show x.mayB 13=true from rfl,show x.mayB 15=true from rfl]
 simp only [Bool.or_true,Bool.true_and,Bool.and_true]
theorem Ae3 (x:OpL) (k:Nat) (hk:x.kind=(k:Int)) (h1:1<=k) (h2:k<14):x.rngB (kindsN.getD k 0)=(x.op.numsB&&x.op.itemsB):=by
 have hl:=Ae2 x k h1 h2;unfold OpL.rngB;rw [Ae1,hl];generalize x.op.itemsB=it;unfold Op.numsB;rw [show x.op.by_=x.by_ from rfl,show x.op.sq=x.sq from rfl,show x.op.at_=x.at_ from rfl,show x.op.kind=x.kind from rfl,show x.op.need=x.need from rfl,show x.op.dev=x.dev from rfl,show x.op.role=x.role from rfl,show x.op.mem=x.mem from rfl,show x.op.epoch=x.epoch from rfl,show x.op.n=x.n from rfl,show x.op.wait=x.wait from rfl,show x.op.pub=x.pub from rfl,show x.op.of=x.of from rfl,show x.op.old=x.old from rfl,show x.op.guards=x.guards from rfl,hk];generalize inR x.by_ 1 12=c1;generalize inR x.sq 1 2147483647=c2;generalize inR x.at_ 0 2147483647=c3;have hkk:k=1\/k=2\/k=3\/k=4\/k=5\/k=6\/k=7\/k=8\/k=9\/k=10\/k=11\/k=12\/k=13:=by omega
 rcases hkk with rfl|rfl|rfl|rfl|rfl|rfl|rfl|rfl|rfl|rfl|rfl|rfl|rfl
 case inr.inr.inl=>
  have e3:(x.mayB 0&&x.mayB 2)=((inR x.dev 1 12&&x.mem==0)||(x.dev==0&&inR x.mem 1 8)):=by
   simp only [OpL.mayB,OpL.ls,OpL.mb,hk];rw [As9];simp [inR];omega
  simp [Bg,Fq];rw [e3];simp [At0]
 case inr.inr.inr.inr.inr.inr.inr.inr.inr.inr.inl=>
  simp [Bg,Fq,OpL.mayB,OpL.ls,hk,At0]
  ac_rfl
 case inr.inr.inr.inr.inr.inr.inr.inr.inr.inr.inr.inr=>
  simp [Bg,Fq,OpL.mayB,OpL.ls,hk,At0]
  ac_rfl
 all_goals
  simp [Bg,Fq,OpL.mayB,OpL.ls,OpL.mb,OpL.nd,OpL.mo,hk,At0]
end Oq
section
open Go.RowKit
namespace Oq
attribute [local go_sem] Bool.not_false Bool.not_true
theorem Rz {α:Type} (l:List α) (p q:α->Bool) (h:∀x,q x=!p x):l.any q=!l.all p:=by
 induction l with
 |nil=>rfl
 |cons x r ih=>rw [List.any_cons,List.all_cons,ih,h];cases p x<;>simp
theorem Ae4 (x:OpL):x.op.longB=(decide ((12:Int)<x.past.length)||decide ((5:Int)<x.path.length)|| !(x.path.all fun y=>decide (y.xs.length<=12))||decide ((208:Int)<x.body.length)||decide ((8:Int)<x.refs.length)||decide ((20:Int)<x.hist.length)|| !(x.hist.all fun y=>decide (y.y.length<=208))||decide ((6:Int)<x.guards.length)||
  (if x.kind=7 then !(inR x.body.length 1 20) else if x.kind=9 then ((x.boxes.length:Int) !=x.guards.length) else if x.kind=10 then !(inR x.boxes.length 1 6) else if x.kind=11 then ((x.boxes.length:Int) !=1) else false)):=by
 have e1:(x.path.map NdL.nd).any (fun y=>decide (12<y.xs.length))=!(x.path.all fun y=>decide (y.xs.length<=12)):=by
  rw [List.any_map];exact Rz _ _ _ (fun y=>by show decide (12<y.xs.length)=_;rw [As9];simp)
 have e2:(x.hist.map SlL.sl).any (fun y=>decide (208<y.y.length))=!(x.hist.all fun y=>decide (y.y.length<=208)):=by
  rw [List.any_map];exact Rz _ _ _ (fun y=>by show decide (208<y.y.length)=_;rw [As9];simp)
 have k:∀(m n:Nat),decide ((m:Int)<(n:Int))=decide (m<n):=fun m n=>by rw [As9];simp
 have k1:=k 12 x.past.length;have k2:=k 5 x.path.length;have k3:=k 208 x.body.length;have k4:=k 8 x.refs.length;have k5:=k 20 x.hist.length;have k6:=k 6 x.guards.length
 have e3:(if x.kind=7 then !(decide (1<=x.body.length)&&decide (x.body.length<=20)) else if x.kind=9 then decide (x.boxes.length≠x.guards.length) else if x.kind=10 then !(decide (1<=x.boxes.length)&&decide (x.boxes.length<=6)) else if x.kind=11 then decide (x.boxes.length≠1) else false)=
   (if x.kind=7 then !(inR x.body.length 1 20) else if x.kind=9 then ((x.boxes.length:Int) !=x.guards.length) else if x.kind=10 then !(inR x.boxes.length 1 6) else if x.kind=11 then ((x.boxes.length:Int) !=1) else false):=by
  have kl:∀(m n:Nat),decide ((m:Int)<=(n:Int))=decide (m<=n):=fun m n=>by rw [As9];simp
  have r1:inR (x.body.length:Int) 1 20=(decide (1<=x.body.length)&&decide (x.body.length<=20)):=by
   unfold inR;rw [show decide ((1:Int)<=(x.body.length:Int))=decide (1<=x.body.length) from kl 1 _,show decide ((x.body.length:Int)<=20)=decide (x.body.length<=20) from kl _ 20]
  have r2:inR (x.boxes.length:Int) 1 6=(decide (1<=x.boxes.length)&&decide (x.boxes.length<=6)):=by
   unfold inR;rw [show decide ((1:Int)<=(x.boxes.length:Int))=decide (1<=x.boxes.length) from kl 1 _,show decide ((x.boxes.length:Int)<=6)=decide (x.boxes.length<=6) from kl _ 6]
  have r3:((x.boxes.length:Int) !=x.guards.length)=decide (x.boxes.length≠x.guards.length):=by rw [As9];simp;omega
  have r4:((x.boxes.length:Int) !=1)=decide (x.boxes.length≠1):=by rw [As9];simp;omega
  rw [r1,r2,r3,r4]
 rw [<- e3];rw [show ((12:Int))=((12:Nat):Int) from rfl,show ((5:Int))=((5:Nat):Int) from rfl,show ((208:Int))=((208:Nat):Int) from rfl,show ((8:Int))=((8:Nat):Int) from rfl,show ((6:Int))=((6:Nat):Int) from rfl,k1,k2,k3,k4,k6,show decide ((20:Int)<(x.hist.length:Int))=decide (20<x.hist.length) from k5];unfold Op.longB;simp only [OpL.op,e1,e2,At1];clear e1 e2 e3 k k1 k2 k3 k4 k5 k6;generalize (x.path.all fun y=>decide (y.xs.length<=12))=a7;generalize (x.hist.all fun y=>decide (y.y.length<=208))=a8
 by_cases h1:12<x.past.length
 · simp [h1]
 by_cases h2:5<x.path.length
 · simp [h1,h2]
 by_cases h3:208<x.body.length
 · simp [h1,h2,h3]
 by_cases h4:8<x.refs.length
 · simp [h1,h2,h3,h4]
 by_cases h5:20<x.hist.length
 · simp [h1,h2,h3,h4,h5]
 by_cases h6:6<x.guards.length
 · simp [h1,h2,h3,h4,h5,h6]
 cases a7<;>cases a8<;>(first|(simp [h1,h2,h3,h4,h5,h6];done)|(by_cases b1:x.boxes.length=x.guards.length<;>by_cases b2:x.boxes.length=1<;>simp [h1,h2,h3,h4,h5,h6,b1,b2]<;>rfl))
theorem Ae5 (x:OpL) (w:World) (hat:x.at w w.heap.size) (hok:x.op.ok):Calls zp 117 #[.agg x.cells] w (Ae x.op.longB w):=by
 have a5:=Blk.new w 55 x.cells;have f0:Fr Non w (w.alloc (.cells x.cells 55)):=(Fr.refl Non w).alloc _;have c2:cI (w.alloc (.cells x.cells 55)) w.heap.size 2 x.kind:=a5.cell 2;have c4:cS (w.alloc (.cells x.cells 55)) w.heap.size 4 x.pastA x.past.length x.pastC:=a5.cell 4;have c9:cS (w.alloc (.cells x.cells 55)) w.heap.size 9 x.pathA x.path.length x.pathC:=a5.cell 9;have a1:cS (w.alloc (.cells x.cells 55)) w.heap.size 14 x.bodyA x.body.length x.bodyC:=a5.cell 14;have ay:cS (w.alloc (.cells x.cells 55)) w.heap.size 15 x.refsA x.refs.length x.refsC:=a5.cell 15;have az:cS (w.alloc (.cells x.cells 55)) w.heap.size 19 x.guardsA x.guards.length x.guardsC:=a5.cell 19;have a3:cS (w.alloc (.cells x.cells 55)) w.heap.size 22 x.boxesA x.boxes.length x.boxesC:=a5.cell 22;have a2:cS (w.alloc (.cells x.cells 55)) w.heap.size 24 x.histA x.hist.length x.histC:=a5.cell 24;have a6:x.path.length<=1000000:=by have h:=hok.path.1;rw [show x.op.path=x.path.map NdL.nd from rfl,At1] at h;omega
 have a7:x.hist.length<=1000000:=by have h:=hok.hist.1;rw [show x.op.hist=x.hist.map SlL.sl from rfl,At1] at h;omega
 have kA:=lh (fun (w':World) (h:Fr Non w w')=>Ac2 w.heap.size x.path.length x.pathC x.pathA x.path (fun y=>decide (y.xs.length<=12)) w' rfl (hat.path.1.fr h zr) a6 (fun y _ w'' _=>Ad2 y w''));have kB:=lh (fun (w':World) (h:Fr Non w w')=>Ac8 w.heap.size x.hist.length x.histC x.histA x.hist (fun y=>decide (y.y.length<=208)) w' rfl (hat.hist.1.fr h zr) a7 (fun y _ w'' _=>Ad1 y w''));have a4:=lh (fun w'=>Dg x.body.length 1 20 w');have a0:=lh (fun w'=>Dg x.boxes.length 1 6 w');have af:=lh (Ae4 x);generalize x.op.longB=LB at*;generalize (x.path.all fun y=>decide (y.xs.length<=12))=pa at*;generalize (x.hist.all fun y=>decide (y.y.length<=208))=ha at*;generalize inR (x.body.length:Int) 1 20=i7 at*;generalize inR (x.boxes.length:Int) 1 6=i10 at*;generalize x.past.length=n1 at*;generalize x.path.length=n2 at*;generalize x.body.length=n3 at*;generalize x.refs.length=n4 at*;generalize x.hist.length=n5 at*;generalize x.guards.length=n6 at*;generalize x.boxes.length=n7 at*;generalize x.kind=kd at*;generalize x.cells=CS at*;clear a5 hat hok a6 a7;have ba:True:=trivial
 rcases zb (decide ((12:Int)<n1)) with h1|h1
 ·
  have hv:Hid (true=LB):=by show _=_;rw [af.out];simp [h1]
  clear af;go_enter func117,ntmps117
  go_wp2_with (first
   |(go_at_call 182;(with_reducible refine (kA.out _ f0).mono ?_);rintro _ v1 ⟨rfl,f1⟩;obtain ⟨ai,ah,ag,ad,aa,ae,ac,ab⟩:=zk8 f1 c2 c4 c9 a1 ay az a3 a2;have ak:=f0.trans f1 zr)
   |(go_at_call 183;(with_reducible refine (kB.out _ ak).mono ?_);rintro _ v2 ⟨rfl,f2⟩;obtain ⟨av,aw,ax,ao,al,ap,aq,ar⟩:=zk8 f2 ai ah ag ad aa ae ac ab;have aj:=ak.trans f2 zr)
   |(go_at_call 170;(with_reducible refine (a4.out _).mono ?_);rintro _ v3 ⟨rfl,f3⟩;have au:=aj.trans f3 zr)
   |(go_at_call 170;(with_reducible refine (a0.out _).mono ?_);rintro _ v3 ⟨rfl,f3⟩;have au:=aj.trans f3 zr))
  go_ret
  exact ⟨congrArg (fun z=>ze (.bool z)) hv.out,f0⟩
 rcases zb (decide ((5:Int)<n2)) with h2|h2
 ·
  have hv:Hid (true=LB):=by show _=_;rw [af.out];simp [h1,h2]
  clear af;go_enter func117,ntmps117
  go_wp2_with (first
   |(go_at_call 182;(with_reducible refine (kA.out _ f0).mono ?_);rintro _ v1 ⟨rfl,f1⟩;obtain ⟨ai,ah,ag,ad,aa,ae,ac,ab⟩:=zk8 f1 c2 c4 c9 a1 ay az a3 a2;have ak:=f0.trans f1 zr)
   |(go_at_call 183;(with_reducible refine (kB.out _ ak).mono ?_);rintro _ v2 ⟨rfl,f2⟩;obtain ⟨av,aw,ax,ao,al,ap,aq,ar⟩:=zk8 f2 ai ah ag ad aa ae ac ab;have aj:=ak.trans f2 zr)
   |(go_at_call 170;(with_reducible refine (a4.out _).mono ?_);rintro _ v3 ⟨rfl,f3⟩;have au:=aj.trans f3 zr)
   |(go_at_call 170;(with_reducible refine (a0.out _).mono ?_);rintro _ v3 ⟨rfl,f3⟩;have au:=aj.trans f3 zr))
  go_ret
  exact ⟨congrArg (fun z=>ze (.bool z)) hv.out,f0⟩
 rcases zb pa with h3|h3
 rotate_left
 ·
  have hv:Hid (true=LB):=by show _=_;rw [af.out];simp [h1,h2,h3]
  subst h3;clear af;go_enter func117,ntmps117
  go_wp2_with (first
   |(go_at_call 182;(with_reducible refine (kA.out _ f0).mono ?_);rintro _ v1 ⟨rfl,f1⟩;obtain ⟨ai,ah,ag,ad,aa,ae,ac,ab⟩:=zk8 f1 c2 c4 c9 a1 ay az a3 a2;have ak:=f0.trans f1 zr)
   |(go_at_call 183;(with_reducible refine (kB.out _ ak).mono ?_);rintro _ v2 ⟨rfl,f2⟩;obtain ⟨av,aw,ax,ao,al,ap,aq,ar⟩:=zk8 f2 ai ah ag ad aa ae ac ab;have aj:=ak.trans f2 zr)
   |(go_at_call 170;(with_reducible refine (a4.out _).mono ?_);rintro _ v3 ⟨rfl,f3⟩;have au:=aj.trans f3 zr)
   |(go_at_call 170;(with_reducible refine (a0.out _).mono ?_);rintro _ v3 ⟨rfl,f3⟩;have au:=aj.trans f3 zr))
  go_ret
  exact ⟨congrArg (fun z=>ze (.bool z)) hv.out,ak⟩
 subst h3
 rcases zb (decide ((208:Int)<n3)) with h4|h4
 ·
  have hv:Hid (true=LB):=by show _=_;rw [af.out];simp [h1,h2,h4]
  clear af;go_enter func117,ntmps117
  go_wp2_with (first
   |(go_at_call 182;(with_reducible refine (kA.out _ f0).mono ?_);rintro _ v1 ⟨rfl,f1⟩;obtain ⟨ai,ah,ag,ad,aa,ae,ac,ab⟩:=zk8 f1 c2 c4 c9 a1 ay az a3 a2;have ak:=f0.trans f1 zr)
   |(go_at_call 183;(with_reducible refine (kB.out _ ak).mono ?_);rintro _ v2 ⟨rfl,f2⟩;obtain ⟨av,aw,ax,ao,al,ap,aq,ar⟩:=zk8 f2 ai ah ag ad aa ae ac ab;have aj:=ak.trans f2 zr)
   |(go_at_call 170;(with_reducible refine (a4.out _).mono ?_);rintro _ v3 ⟨rfl,f3⟩;have au:=aj.trans f3 zr)
   |(go_at_call 170;(with_reducible refine (a0.out _).mono ?_);rintro _ v3 ⟨rfl,f3⟩;have au:=aj.trans f3 zr))
  go_ret
  exact ⟨congrArg (fun z=>ze (.bool z)) hv.out,ak⟩
 rcases zb (decide ((8:Int)<n4)) with h5|h5
 ·
  have hv:Hid (true=LB):=by show _=_;rw [af.out];simp [h1,h2,h4,h5]
  clear af;go_enter func117,ntmps117
  go_wp2_with (first
   |(go_at_call 182;(with_reducible refine (kA.out _ f0).mono ?_);rintro _ v1 ⟨rfl,f1⟩;obtain ⟨ai,ah,ag,ad,aa,ae,ac,ab⟩:=zk8 f1 c2 c4 c9 a1 ay az a3 a2;have ak:=f0.trans f1 zr)
   |(go_at_call 183;(with_reducible refine (kB.out _ ak).mono ?_);rintro _ v2 ⟨rfl,f2⟩;obtain ⟨av,aw,ax,ao,al,ap,aq,ar⟩:=zk8 f2 ai ah ag ad aa ae ac ab;have aj:=ak.trans f2 zr)
   |(go_at_call 170;(with_reducible refine (a4.out _).mono ?_);rintro _ v3 ⟨rfl,f3⟩;have au:=aj.trans f3 zr)
   |(go_at_call 170;(with_reducible refine (a0.out _).mono ?_);rintro _ v3 ⟨rfl,f3⟩;have au:=aj.trans f3 zr))
  go_ret
  exact ⟨congrArg (fun z=>ze (.bool z)) hv.out,ak⟩
 rcases zb (decide ((20:Int)<n5)) with h6|h6
 ·
  have hv:Hid (true=LB):=by show _=_;rw [af.out];simp [h1,h2,h4,h5,h6]
  clear af;go_enter func117,ntmps117
  go_wp2_with (first
   |(go_at_call 182;(with_reducible refine (kA.out _ f0).mono ?_);rintro _ v1 ⟨rfl,f1⟩;obtain ⟨ai,ah,ag,ad,aa,ae,ac,ab⟩:=zk8 f1 c2 c4 c9 a1 ay az a3 a2;have ak:=f0.trans f1 zr)
   |(go_at_call 183;(with_reducible refine (kB.out _ ak).mono ?_);rintro _ v2 ⟨rfl,f2⟩;obtain ⟨av,aw,ax,ao,al,ap,aq,ar⟩:=zk8 f2 ai ah ag ad aa ae ac ab;have aj:=ak.trans f2 zr)
   |(go_at_call 170;(with_reducible refine (a4.out _).mono ?_);rintro _ v3 ⟨rfl,f3⟩;have au:=aj.trans f3 zr)
   |(go_at_call 170;(with_reducible refine (a0.out _).mono ?_);rintro _ v3 ⟨rfl,f3⟩;have au:=aj.trans f3 zr))
  go_ret
  exact ⟨congrArg (fun z=>ze (.bool z)) hv.out,ak⟩
 rcases zb ha with h7|h7
 rotate_left
 ·
  have hv:Hid (true=LB):=by show _=_;rw [af.out];simp [h1,h2,h4,h5,h6,h7]
  subst h7;clear af;go_enter func117,ntmps117
  go_wp2_with (first
   |(go_at_call 182;(with_reducible refine (kA.out _ f0).mono ?_);rintro _ v1 ⟨rfl,f1⟩;obtain ⟨ai,ah,ag,ad,aa,ae,ac,ab⟩:=zk8 f1 c2 c4 c9 a1 ay az a3 a2;have ak:=f0.trans f1 zr)
   |(go_at_call 183;(with_reducible refine (kB.out _ ak).mono ?_);rintro _ v2 ⟨rfl,f2⟩;obtain ⟨av,aw,ax,ao,al,ap,aq,ar⟩:=zk8 f2 ai ah ag ad aa ae ac ab;have aj:=ak.trans f2 zr)
   |(go_at_call 170;(with_reducible refine (a4.out _).mono ?_);rintro _ v3 ⟨rfl,f3⟩;have au:=aj.trans f3 zr)
   |(go_at_call 170;(with_reducible refine (a0.out _).mono ?_);rintro _ v3 ⟨rfl,f3⟩;have au:=aj.trans f3 zr))
  go_ret
  exact ⟨congrArg (fun z=>ze (.bool z)) hv.out,aj⟩
 subst h7
 rcases zb (decide ((6:Int)<n6)) with h8|h8
 ·
  have hv:Hid (true=LB):=by show _=_;rw [af.out];simp [h1,h2,h4,h5,h6,h8]
  clear af;go_enter func117,ntmps117
  go_wp2_with (first
   |(go_at_call 182;(with_reducible refine (kA.out _ f0).mono ?_);rintro _ v1 ⟨rfl,f1⟩;obtain ⟨ai,ah,ag,ad,aa,ae,ac,ab⟩:=zk8 f1 c2 c4 c9 a1 ay az a3 a2;have ak:=f0.trans f1 zr)
   |(go_at_call 183;(with_reducible refine (kB.out _ ak).mono ?_);rintro _ v2 ⟨rfl,f2⟩;obtain ⟨av,aw,ax,ao,al,ap,aq,ar⟩:=zk8 f2 ai ah ag ad aa ae ac ab;have aj:=ak.trans f2 zr)
   |(go_at_call 170;(with_reducible refine (a4.out _).mono ?_);rintro _ v3 ⟨rfl,f3⟩;have au:=aj.trans f3 zr)
   |(go_at_call 170;(with_reducible refine (a0.out _).mono ?_);rintro _ v3 ⟨rfl,f3⟩;have au:=aj.trans f3 zr))
  go_ret
  exact ⟨congrArg (fun z=>ze (.bool z)) hv.out,aj⟩
 rcases zb (kd==7) with k7|k7
 ·
  have hv:Hid ((!i7)=LB):=by show _=_;have p:kd=7:=(by simpa using k7);rw [af.out];simp [h1,h2,h4,h5,h6,h8,p]
  clear af
  cases i7
  all_goals
   go_enter func117,ntmps117
   go_wp2_with (first
    |(go_at_call 182;(with_reducible refine (kA.out _ f0).mono ?_);rintro _ v1 ⟨rfl,f1⟩;obtain ⟨ai,ah,ag,ad,aa,ae,ac,ab⟩:=zk8 f1 c2 c4 c9 a1 ay az a3 a2;have ak:=f0.trans f1 zr)
    |(go_at_call 183;(with_reducible refine (kB.out _ ak).mono ?_);rintro _ v2 ⟨rfl,f2⟩;obtain ⟨av,aw,ax,ao,al,ap,aq,ar⟩:=zk8 f2 ai ah ag ad aa ae ac ab;have aj:=ak.trans f2 zr)
    |(go_at_call 170;(with_reducible refine (a4.out _).mono ?_);rintro _ v3 ⟨rfl,f3⟩;have au:=aj.trans f3 zr)
    |(go_at_call 170;(with_reducible refine (a0.out _).mono ?_);rintro _ v3 ⟨rfl,f3⟩;have au:=aj.trans f3 zr))
   go_ret
   first|exact ⟨congrArg (fun z=>ze (.bool z)) hv.out,au⟩|exact ⟨congrArg (fun z=>ze (.bool z)) hv.out,aj⟩
 rcases zb (kd==9) with k9|k9
 ·
  have hv:Hid ((((n7:Int) !=n6))=LB):=by show _=_;have p:kd=9:=(by simpa using k9);rw [af.out];simp [h1,h2,h4,h5,h6,h8,p]
  clear af;go_enter func117,ntmps117
  go_wp2_with (first
   |(go_at_call 182;(with_reducible refine (kA.out _ f0).mono ?_);rintro _ v1 ⟨rfl,f1⟩;obtain ⟨ai,ah,ag,ad,aa,ae,ac,ab⟩:=zk8 f1 c2 c4 c9 a1 ay az a3 a2;have ak:=f0.trans f1 zr)
   |(go_at_call 183;(with_reducible refine (kB.out _ ak).mono ?_);rintro _ v2 ⟨rfl,f2⟩;obtain ⟨av,aw,ax,ao,al,ap,aq,ar⟩:=zk8 f2 ai ah ag ad aa ae ac ab;have aj:=ak.trans f2 zr)
   |(go_at_call 170;(with_reducible refine (a4.out _).mono ?_);rintro _ v3 ⟨rfl,f3⟩;have au:=aj.trans f3 zr)
   |(go_at_call 170;(with_reducible refine (a0.out _).mono ?_);rintro _ v3 ⟨rfl,f3⟩;have au:=aj.trans f3 zr))
  go_ret
  first|exact ⟨congrArg (fun z=>ze (.bool z)) hv.out,au⟩|exact ⟨congrArg (fun z=>ze (.bool z)) hv.out,aj⟩
 rcases zb (kd==10) with k10|k10
 ·
  have hv:Hid ((!i10)=LB):=by show _=_;have p:kd=10:=(by simpa using k10);rw [af.out];simp [h1,h2,h4,h5,h6,h8,p]
  clear af
  cases i10
  all_goals
   go_enter func117,ntmps117
   go_wp2_with (first
    |(go_at_call 182;(with_reducible refine (kA.out _ f0).mono ?_);rintro _ v1 ⟨rfl,f1⟩;obtain ⟨ai,ah,ag,ad,aa,ae,ac,ab⟩:=zk8 f1 c2 c4 c9 a1 ay az a3 a2;have ak:=f0.trans f1 zr)
    |(go_at_call 183;(with_reducible refine (kB.out _ ak).mono ?_);rintro _ v2 ⟨rfl,f2⟩;obtain ⟨av,aw,ax,ao,al,ap,aq,ar⟩:=zk8 f2 ai ah ag ad aa ae ac ab;have aj:=ak.trans f2 zr)
    |(go_at_call 170;(with_reducible refine (a4.out _).mono ?_);rintro _ v3 ⟨rfl,f3⟩;have au:=aj.trans f3 zr)
    |(go_at_call 170;(with_reducible refine (a0.out _).mono ?_);rintro _ v3 ⟨rfl,f3⟩;have au:=aj.trans f3 zr))
   go_ret
   first|exact ⟨congrArg (fun z=>ze (.bool z)) hv.out,au⟩|exact ⟨congrArg (fun z=>ze (.bool z)) hv.out,aj⟩
 rcases zb (kd==11) with k11|k11
 focus
  have hv:Hid ((((n7:Int) !=1))=LB):=by show _=_;have p:kd=11:=(by simpa using k11);rw [af.out];simp [h1,h2,h4,h5,h6,h8,p]
 rotate_left
 focus
  have hv:Hid ((false)=LB):=by show _=_;have q7:¬kd=7:=(by simpa using k7);have q9:¬kd=9:=(by simpa using k9);have a9:¬kd=10:=(by simpa using k10);have a8:¬kd=11:=(by simpa using k11);rw [af.out];simp [h1,h2,h4,h5,h6,h8,q7,q9,a9,a8]
 all_goals
  clear af;go_enter func117,ntmps117
  go_wp2_with (first
   |(go_at_call 182;(with_reducible refine (kA.out _ f0).mono ?_);rintro _ v1 ⟨rfl,f1⟩;obtain ⟨ai,ah,ag,ad,aa,ae,ac,ab⟩:=zk8 f1 c2 c4 c9 a1 ay az a3 a2;have ak:=f0.trans f1 zr)
   |(go_at_call 183;(with_reducible refine (kB.out _ ak).mono ?_);rintro _ v2 ⟨rfl,f2⟩;obtain ⟨av,aw,ax,ao,al,ap,aq,ar⟩:=zk8 f2 ai ah ag ad aa ae ac ab;have aj:=ak.trans f2 zr)
   |(go_at_call 170;(with_reducible refine (a4.out _).mono ?_);rintro _ v3 ⟨rfl,f3⟩;have au:=aj.trans f3 zr)
   |(go_at_call 170;(with_reducible refine (a0.out _).mono ?_);rintro _ v3 ⟨rfl,f3⟩;have au:=aj.trans f3 zr))
  go_ret
  first|exact ⟨congrArg (fun z=>ze (.bool z)) hv.out,au⟩|exact ⟨congrArg (fun z=>ze (.bool z)) hv.out,aj⟩
end Oq
end
section
open Go.RowKit Go.Maps
namespace Oq
attribute [local go_sem] Bool.not_false Bool.not_true
attribute [local go_sem ↓] Be
theorem Ae6:∀k,k<14->kindsL.getD k 0=((kindsN.getD k 0:Nat):Int):=by decide
def R3 (e:Int) (w:World) (r:Ending) (w':World):Prop:=r=.returned (.int .i64 e)/\Fr Non w w'
theorem R4 {α:Type} (r:α->α->Bool) (l:List α) {k:Nat} {x y:α} (hx:l[k]? =some x) (hy:l[k+1]? =some y):Bf r (l.take (k+2))=(Bf r (l.take (k+1))&&r x y):=by
 induction k generalizing l with
 |zero=>
  match l,hx,hy with
  |a::b::t,hx,hy=>
   simp at hx hy;subst hx;subst hy;simp [Bf]
 |succ k ih=>
  match l,hx,hy with
  |a::b::t,hx,hy=>
   have h:=ih (b::t) (by simpa using hx) (by simpa using hy);rw [At2,At2] at h ⊢;rw [At2,At2];show (r a b&&Bf r (b::t.take (k+1)))=((r a b&&Bf r (b::t.take k))&&r x y);rw [h,At0]
theorem R5 {α:Type} (r:α->α->Bool) (l:List α):Bf r (l.take (0+1))=true:=by
 cases l with
 |nil=>rfl
 |cons a t=>rfl
theorem Mb (x:OpL) (w:World) (hat:x.at w w.heap.size) (hok:x.op.ok) (hkn:KindsAt w):Calls zp 58 #[.agg x.cells] w (R3 x.op.chk w):=by
 have bi:x.cells.size=27:=rfl;have bh:(zp.info? 55).map (·.size)=some x.cells.size:=by rw [bi];kernel_rfl
 have bq:=B0 (P:=zp) w.heap.size 55 underlying55 rfl bh;have hb:=Blk.new w 55 x.cells;have f0:Fr Non w (w.alloc (.cells x.cells 55)):=(Fr.refl Non w).alloc _;have c2:cI (w.alloc (.cells x.cells 55)) w.heap.size 2 x.kind:=hb.cell 2;have c4:cS (w.alloc (.cells x.cells 55)) w.heap.size 4 x.pastA x.past.length x.pastC:=hb.cell 4;have a5:cS (w.alloc (.cells x.cells 55)) w.heap.size 19 x.guardsA x.guards.length x.guardsC:=hb.cell 19;have ai:x.guards.length<=1000000:=by have h:=hok.guards.1;rw [show x.op.guards=x.guards from rfl] at h;omega
 have aw:x.past.length<=1000000:=by have h:=hok.past.1;rw [show x.op.past=x.past from rfl] at h;omega
 have ae:=hat.past.1.fr f0 zr;have ac:=hat.guards.1.fr f0 zr;have kp:=lh (fun (w':World)=>Aa5 x w');have kr:=lh (fun (has:Nat) (hh:has<65536) (w':World) (h:Fr Non w w')=>Ad7 x has hh w' ((hat.fr h zr).mono h.size) hok);have kl:=lh (fun (w':World) (h:Fr Non w w')=>Ae5 x w' ((hat.fr h zr).mono h.size) hok);have aa:Hid (x.op.chk=if x.kind<1\/13<x.kind then 1 else if x.op.bareB=false then 1 else if x.op.numsB=false then 8 else if x.op.itemsB=false then 8 else if x.op.longB=true then 2 else if (Bf Id.less x.past&&Bf (fun a b=>decide (a<b)) x.guards)=false then 6 else if decide (x.past=[])≠decide (x.kind=1) then 10 else 0):=rfl;have ag:=lh (Ae0 x);have af:=lh (Ae3 x);generalize x.op.chk=EC at*;have a2:=hkn.fr f0;clear hat hok bi bh hkn;have bo:Hid (∀w',Blk w' w.heap.size 55 x.cells->cI w' w.heap.size 2 x.kind):=fun w' h=>h.cell 2;have bn:Hid (∀w',Calls zp 114 #[.agg x.cells] w' (Ru x w')):=kp.out;clear kp;generalize hCS:x.cells=CS at*;clear hCS
 rcases zb (decide (x.kind<1)) with k1|k1
 ·
  have hv:Hid (1=EC):=by show _=_;rw [aa.out,if_pos (Or.inl (of_decide_eq_true k1))]
  clear aa;go_enter func58,ntmps58;go_upto_region 1 with (fail)
  refine wp_region_held_drew (S:=(fun w'=>Blk w' w.heap.size 55 CS/\cI w' w.heap.size 2 x.kind)) (by kernel_rfl) ⟨hb,c2⟩ (fun hHeld=> ?_);clear hHeld;have hS:(fun w'=>Blk w' w.heap.size 55 CS/\cI w' w.heap.size 2 x.kind) ((w.alloc (.cells CS 55)).drew):=⟨hb,c2⟩;have fd:=f0.drew;generalize (w.alloc (.cells CS 55)).drew=w0 at hS fd ⊢;refine tkH 0 hS (h:=tkH 1 hS (h:=tkH 2 hS (h:=tkH 3 hS (h:=skH 4 hS (h:=skH 5 hS (h:=skH 6 hS (h:=tkH 7 hS (h:=tkH 8 hS (h:=skH 9 hS (h:=skH 10 hS (h:=skH 11 hS (h:=?_))))))))))));simp only [zl];refine skH 12 hS (h:=skH 13 hS (h:=skH 14 hS (h:=skH 15 hS (h:=skH 16 hS (h:=tkH 17 hS (h:=?_))))));simp only [zl];refine oD ?_;go_simp;go_wp2_with fail
  go_ret
  exact ⟨congrArg (fun z=>ze (.int .i64 z)) hv.out,fd⟩
 rcases zb (decide ((13:Int)<x.kind)) with k13|k13
 ·
  have hv:Hid (1=EC):=by show _=_;rw [aa.out,if_pos (Or.inr (of_decide_eq_true k13))]
  clear aa;go_enter func58,ntmps58;go_upto_region 1 with (fail)
  refine wp_region_held_drew (S:=(fun w'=>Blk w' w.heap.size 55 CS/\cI w' w.heap.size 2 x.kind)) (by kernel_rfl) ⟨hb,c2⟩ (fun hHeld=> ?_);clear hHeld;have hS:(fun w'=>Blk w' w.heap.size 55 CS/\cI w' w.heap.size 2 x.kind) ((w.alloc (.cells CS 55)).drew):=⟨hb,c2⟩;have fd:=f0.drew;generalize (w.alloc (.cells CS 55)).drew=w0 at hS fd ⊢;refine tkH 0 hS (h:=tkH 1 hS (h:=tkH 2 hS (h:=tkH 3 hS (h:=tkH 4 hS (h:=tkH 5 hS (h:=tkH 6 hS (h:=tkH 7 hS (h:=tkH 8 hS (h:=skH 9 hS (h:=skH 10 hS (h:=skH 11 hS (h:=?_))))))))))));simp only [zl];refine skH 12 hS (h:=skH 13 hS (h:=skH 14 hS (h:=skH 15 hS (h:=skH 16 hS (h:=tkH 17 hS (h:=?_))))));simp only [zl];refine oD ?_;go_simp;go_wp2_with fail
  go_ret
  exact ⟨congrArg (fun z=>ze (.int .i64 z)) hv.out,fd⟩
 obtain ⟨k,ba⟩:∃k:Nat,x.kind=(k:Int):=⟨x.kind.toNat,by have:=of_decide_eq_false k1;omega⟩;have bk:1<=k:=by have:=of_decide_eq_false k1;omega
 have a4:k<14:=by have:=of_decide_eq_false k13;omega
 have i1:(0:Int)<=k:=by omega
 have i2:(k:Int)<14:=by omega
 have i3:(k:Int).toNat=k:=by omega
 replace aa:Hid (EC=if x.op.bareB=false then 1 else if x.op.numsB=false then 8 else if x.op.itemsB=false then 8 else if x.op.longB=true then 2 else if (Bf Id.less x.past&&Bf (fun a b=>decide (a<b)) x.guards)=false then 6 else if decide (x.past=[])≠decide (x.kind=1) then 10 else 0):=by show _=_;rw [aa.out,if_neg (by have a:=of_decide_eq_false k1;have b:=of_decide_eq_false k13;omega)]
 have cN:=a2 k a4;rw [Ae6 k a4] at cN;have hN:=Ad8 k a4;replace ag:=lh (ag.out k ba bk a4);replace af:=lh (af.out k ba bk a4);rw [ba] at c2 k1 k13 aa;generalize kindsN.getD k 0=kN at*;replace kr:=lh (fun (w':World) (h:Fr Non w w')=>kr.out kN hN w' h);rw [af.out] at kr;clear af bo a2;go_enter func58,ntmps58;go_upto_region 1 with (fail)
 refine wp_region_held_drew (S:=(fun w'=>Blk w' w.heap.size 55 CS/\cI w' w.heap.size 2 (k:Int)/\cI w' 0 k (kN:Int))) (by kernel_rfl) ⟨hb,c2,cN⟩ (fun hHeld=> ?_);clear hHeld;have hS:(fun w'=>Blk w' w.heap.size 55 CS/\cI w' w.heap.size 2 (k:Int)/\cI w' 0 k (kN:Int)) ((w.alloc (.cells CS 55)).drew):=⟨hb,c2,cN⟩;have fd:=f0.drew;replace c4:cS ((w.alloc (.cells CS 55)).drew) w.heap.size 4 x.pastA x.past.length x.pastC:=c4;replace a5:cS ((w.alloc (.cells CS 55)).drew) w.heap.size 19 x.guardsA x.guards.length x.guardsC:=a5;replace ae:=ae.fr (S:=Non) (Fr.drew (Fr.refl _ _)) zr;replace ac:=ac.fr (S:=Non) (Fr.drew (Fr.refl _ _)) zr;clear hb c2 cN f0;generalize (w.alloc (.cells CS 55)).drew=w0 at*;refine tkH 0 hS (h:=tkH 1 hS (h:=tkH 2 hS (h:=tkH 3 hS (h:=tkH 4 hS (h:=tkH 5 hS (h:=tkH 6 hS (h:=tkH 7 hS (h:=tkH 8 hS (h:=tkH 9 hS (h:=tkH 11 hS (h:=tkH 12 hS (h:=?_))))))))))));simp only [zl];refine tkH 13 hS (h:=tkH 14 hS (h:=?_));simp only [zl];refine oG 10 (fun K hK=> ?_);go_simp;go_wp2_with (go_at_call 114;(with_reducible refine (bn.out _).mono ?_);rintro _ w1 ⟨nP,rfl,ah,f1⟩);refine hK.out _ _ ⟨hS.1.fr f1 zq,f1.cell hS.2.1 zq,f1.cell hS.2.2 zq⟩ (fun aq=> ?_);clear hK K;try simp only [Ai,zl]
 have bg:nP<65536:=by
  have:nP<2^16:=Nat.lt_pow_two_of_testBit nP (fun j hj=>by rw [ah j,Mm x j hj]);omega
 have hz:=Aa1 nP kN bg hN;have bl:Hid ((bits .andNot .i64 (nP:Int) (kN:Int)=0)<->x.op.bareB=true):=hz.trans ((show (∀j,nP.testBit j=true->kN.testBit j=true)<->(∀j,x.presB j=true->kN.testBit j=true) from ⟨fun h j hj=>h j (by rw [ah];exact hj),fun h j hj=>h j (by rw [<- ah];exact hj)⟩).trans ag.out);clear hz ag ah
 have a8:Hid ((bits .andNot .i64 (nP:Int) (kN:Int) !=0)=!x.op.bareB):=by
  show _=_;rw [bne,Bool.not_inj_iff,As9,beq_iff_eq];exact bl.out
 clear bl;generalize hpn:bits .andNot .i64 (nP:Int) (kN:Int)=pn at*
 cases hbb:x.op.bareB
 ·
  have hv:Hid (1=EC):=by show _=_;rw [aa.out,if_pos hbb]
  have a3:(pn !=0)=true:=by rw [a8.out,hbb];rfl
  clear aa a8;refine tkH 15 aq (h:=tkH 16 aq (h:=tkH 17 aq (h:=?_)));simp only [zl];refine oD ?_;go_simp;go_wp2_with fail
  go_ret
  exact ⟨congrArg (fun z=>ze (.int .i64 z)) hv.out,fd.trans f1 zr⟩
 have a3:(pn !=0)=false:=by rw [a8.out,hbb];rfl
 replace aa:Hid (EC=if x.op.numsB=false then 8 else if x.op.itemsB=false then 8 else if x.op.longB=true then 2 else if (Bf Id.less x.past&&Bf (fun a b=>decide (a<b)) x.guards)=false then 6 else if decide (x.past=[])≠decide ((k:Int)=1) then 10 else 0):=by show _=_;rw [aa.out,if_neg (by rw [hbb];decide)]
 clear a8 hbb;refine tkH 15 aq (h:=tkH 16 aq (h:=tkH 17 aq (h:=?_)));simp only [zl];refine oD ?_;go_simp;have fz:=fd.trans f1 zr;obtain ⟨d4,bb⟩:=zk2 f1 c4 a5;replace ae:=ae.fr f1 zr;replace ac:=ac.fr f1 zr;clear c4 a5 f1 fd hS a3 hpn bg;obtain ⟨np,ar⟩:=Aa x.past.length;rw [ar.out] at ae aw d4;obtain ⟨ng,a6⟩:=Aa x.guards.length;rw [a6.out] at ac ai bb;have a9:Hid (∀n:Nat,n<=1000000->IntKind.i64.wrap ((n:Int)-1)=(n:Int)-1):=fun n hn=>IntWalk.i64_in _ (by omega);have bs:=a9.out np aw;have br:=a9.out ng ai;clear a9;obtain ⟨nb,bd⟩:=Aa x.op.numsB;obtain ⟨ib,bc⟩:=Aa x.op.itemsB;obtain ⟨lb,bf⟩:=Aa x.op.longB;rw [bd.out,bc.out] at kr;rw [bf.out] at kl;rw [bd.out,bc.out,bf.out] at aa;clear bd bc bf;go_wp2_with fail
 go_loopw [3,28] (fun r v wr=>∃(i:Nat) (rb:Bool),v=.int .i64 (i:Int)/\r=.bool rb/\Hid (rb=Bf Id.less (x.past.take (i+1)))/\(i=0\/i+1<=np)/\Fr Non w1 wr) (fun _ v _=>np-(intOf v).toNat)
 case atStart=>exact ⟨0,true,rfl,rfl,(R5 _ _).symm,Or.inl rfl,Fr.refl _ _⟩
 case round=>
  obtain ⟨i,rb,rfl,rfl,a0,hi,hf⟩:=hrel
  by_cases hlt:i+1<np
  ·
   have n1:(i:Int)<(np:Int)-1:=by omega
   obtain ⟨n2,n3,n4⟩:=ix i np
   have n5:=iw ((i:Int)+1);have n6:(0:Int)<=(i:Int)+1:=by omega
   have n7:(i:Int)+1<np:=by omega
   have n8:((i:Int)+1).toNat=i+1:=by omega
   obtain ⟨y,hy⟩:∃y,x.past[i]? =some y:=⟨_,At3 (by rw [ar.out];omega)⟩;obtain ⟨z,hz⟩:∃z,x.past[i+1]? =some z:=⟨_,At3 (by rw [ar.out];omega)⟩;obtain ⟨b,ad,hA,bm,e0,e1,e2⟩:=Id.at (ae.fr hf zr) hy;obtain ⟨b',az,ax,ay,g0,g1,g2⟩:=Id.at (ae.fr hf zr) hz;rw [hA] at ax;obtain ⟨rfl,rfl⟩:b=b'/\ad=az:=by cases ax;exact ⟨rfl,rfl⟩
   clear ax ay;have cc:=hf.cell d4 zq;rw [hA] at cc;have au:Hid (Bf Id.less (x.past.take (i+2))=(Bf Id.less (x.past.take (i+1))&&Id.less y z)):=R4 Id.less x.past hy hz;have ao:i+2<=np:=by omega
   clear hy hz hi hlt hA;go_upto_region 7 with (fail)
   refine wp_region_held_drew (S:=(fun w'=>cS w' w.heap.size 4 (some ⟨b,ad,none⟩) np x.pastC/\cI w' b (ad+i*3) y.b/\cI w' b (ad+i*3+1) y.s/\cU w' b (ad+i*3+2) y.u/\cI w' b (ad+(i+1)*3) z.b/\cI w' b (ad+(i+1)*3+1) z.s/\cU w' b (ad+(i+1)*3+2) z.u)) (by kernel_rfl) ⟨cc,e0,e1,e2,g0,g1,g2⟩ (fun ab=> ?_);replace hf:=hf.drew;clear cc e0 e1 e2 g0 g1 g2;generalize wr.drew=wq at*
   cases rb
   ·
    have ak:Hid (false=Bf Id.less (x.past.take (i+2))):=by show _=_;rw [au.out,<- a0.out];rfl
    clear a0 au;refine tkH 0 ab (h:=tkH 1 ab (h:=skH 2 ab (h:=skH 3 ab (h:=skH 4 ab (h:=skH 5 ab (h:=skH 6 ab (h:=skH 7 ab (h:=skH 8 ab (h:=skH 9 ab (h:=skH 10 ab (h:=skH 11 ab (h:=?_))))))))))));simp only [zl];refine skH 12 ab (h:=skH 13 ab (h:=tkH 14 ab (h:=tkH 15 ab (h:=?_))));simp only [zl];refine oD ?_;go_simp;go_wp2_with fail;go_roundw
    case rel=>exact ⟨i+1,false,by first|rfl|go_num,rfl,ak,Or.inr ao,hf⟩
    case measure=>simp [intOf];omega
   ·
    have ak:Hid (Id.less y z=Bf Id.less (x.past.take (i+2))):=by show _=_;rw [au.out,<- a0.out];rfl
    clear a0 au;refine tkH 0 ab (h:=tkH 1 ab (h:=tkH 2 ab (h:=tkH 3 ab (h:=tkH 4 ab (h:=tkH 5 ab (h:=tkH 6 ab (h:=tkH 7 ab (h:=tkH 8 ab (h:=tkH 9 ab (h:=tkH 10 ab (h:=tkH 11 ab (h:=?_))))))))))));simp only [zl];refine tkH 12 ab (h:=?_);simp only [zl];refine oG 13 (fun K hK=> ?_);go_simp;go_wp2_with (go_at_call 115;(with_reducible refine (Wp y z _).mono ?_);rintro _ w3 ⟨rfl,f3⟩);refine hK.out _ _ ⟨f3.cell ab.1 zq,f3.cell ab.2.1 zq,f3.cell ab.2.2.1 zq,f3.cell ab.2.2.2.1 zq,f3.cell ab.2.2.2.2.1 zq,f3.cell ab.2.2.2.2.2.1 zq,f3.cell ab.2.2.2.2.2.2 zq⟩ (fun al=> ?_);clear hK K;try simp only [Ai,zl]
    refine tkH 14 al (h:=tkH 15 al (h:=?_));simp only [zl];refine oD ?_;go_simp;go_wp2_with fail;go_roundw
    case rel=>exact ⟨i+1,_,by first|rfl|go_num,rfl,ak,Or.inr ao,hf.trans f3 zr⟩
    case measure=>simp [intOf];omega
  ·
   have n1:¬((i:Int)<(np:Int)-1):=by omega
   have ak:Hid (rb=Bf Id.less x.past):=by show _=_;rw [a0.out,At5 (by rw [ar.out];omega)]
   replace aa:Hid (EC=if nb=false then 8 else if ib=false then 8 else if lb=true then 2 else if (rb&&Bf (fun a b=>decide (a<b)) x.guards)=false then 6 else if decide (x.past=[])≠decide ((k:Int)=1) then 10 else 0):=by show _=_;rw [aa.out,<- ak.out]
   obtain ⟨bj,e4⟩:=zk2 hf bb d4;have a7:(fun w'=>Blk w' w.heap.size 55 CS/\cI w' w.heap.size 2 (k:Int)/\cI w' 0 k (kN:Int)) wr:=⟨aq.1.fr hf zq,hf.cell aq.2.1 zq,hf.cell aq.2.2 zq⟩;replace ac:=ac.fr hf zr;replace fz:=fz.trans hf zr;clear a0 ak ae hlt hi bb d4 aq hf;generalize hgw:wr=v1 at*;go_wp2_with fail
   go_loopw [3,51] (fun r v wr=>∃(i:Nat) (rc:Bool),v=.int .i64 (i:Int)/\r=.bool rc/\Hid (rc=(rb&&Bf (fun a b=>decide (a<b)) (x.guards.take (i+1))))/\(i=0\/i+1<=ng)/\Fr Non v1 wr) (fun _ v _=>ng-(intOf v).toNat)
   case atStart=>exact ⟨0,rb,rfl,rfl,by show _=_;rw [R5,Bool.and_true],Or.inl rfl,Fr.refl _ _⟩
   case round=>
    obtain ⟨i,rc,rfl,rfl,a1,hi,hf⟩:=hrel
    by_cases hlt:i+1<ng
    ·
     have n1:(i:Int)<(ng:Int)-1:=by omega
     obtain ⟨n2,n3,n4⟩:=ix i ng
     have n5:=iw ((i:Int)+1);have n6:(0:Int)<=(i:Int)+1:=by omega
     have n7:(i:Int)+1<ng:=by omega
     have n8:((i:Int)+1).toNat=i+1:=by omega
     obtain ⟨y,hy⟩:∃y,x.guards[i]? =some y:=⟨_,At3 (by rw [a6.out];omega)⟩;obtain ⟨z,hz⟩:∃z,x.guards[i+1]? =some z:=⟨_,At3 (by rw [a6.out];omega)⟩;obtain ⟨b,ad,u,hA,bm,hu,e0⟩:=(ac.fr hf zr).at (show i<ng by omega);obtain ⟨b',az,u',ax,ay,be,g0⟩:=(ac.fr hf zr).at (show i+1<ng by omega);rw [At6,hy] at hu;rw [At6,hz] at be;obtain rfl:=(Option.some.inj hu).symm;obtain rfl:=(Option.some.inj be).symm;rw [hA] at ax;obtain ⟨rfl,rfl⟩:b=b'/\ad=az:=by cases ax;exact ⟨rfl,rfl⟩
     replace e0:cI wr b (ad+i) y:=e0;replace g0:cI wr b (ad+(i+1)) z:=g0;clear ax ay hu be;have cc:=hf.cell bj zq;rw [hA] at cc;have au:Hid (Bf (fun a b=>decide (a<b)) (x.guards.take (i+2))=(Bf (fun a b=>decide (a<b)) (x.guards.take (i+1))&&decide (y<z))):=R4 (fun (a b:Int)=>decide (a<b)) x.guards hy hz;have ao:i+2<=ng:=by omega
     clear hy hz hi hlt hA;go_upto_region 12 with (fail)
     refine wp_region_held_drew (S:=(fun w'=>cS w' w.heap.size 19 (some ⟨b,ad,none⟩) ng x.guardsC/\cI w' b (ad+i) y/\cI w' b (ad+(i+1)) z)) (by kernel_rfl) ⟨cc,e0,g0⟩ (fun ab=> ?_);replace hf:=hf.drew;clear cc e0 g0;generalize wr.drew=wq at*
     cases rc
     ·
      have aj:Hid (false=(rb&&Bf (fun a b=>decide (a<b)) (x.guards.take (i+2)))):=by show _=_;rw [au.out,<- At0,<- a1.out];rfl
      clear a1 au;refine tkH 0 ab (h:=tkH 1 ab (h:=skH 2 ab (h:=skH 3 ab (h:=skH 4 ab (h:=skH 5 ab (h:=skH 6 ab (h:=skH 7 ab (h:=skH 8 ab (h:=skH 9 ab (h:=skH 10 ab (h:=skH 11 ab (h:=?_))))))))))));simp only [zl];refine skH 12 ab (h:=skH 13 ab (h:=tkH 14 ab (h:=tkH 15 ab (h:=?_))));simp only [zl];refine oD ?_;go_simp;go_wp2_with fail;go_roundw
      case rel=>exact ⟨i+1,false,by first|rfl|go_num,rfl,aj,Or.inr ao,hf⟩
      case measure=>simp [intOf];omega
     ·
      have aj:Hid (decide (y<z)=(rb&&Bf (fun a b=>decide (a<b)) (x.guards.take (i+2)))):=by show _=_;rw [au.out,<- At0,<- a1.out];rfl
      clear a1 au;refine tkH 0 ab (h:=tkH 1 ab (h:=tkH 2 ab (h:=tkH 3 ab (h:=tkH 4 ab (h:=tkH 5 ab (h:=tkH 6 ab (h:=tkH 7 ab (h:=tkH 8 ab (h:=tkH 9 ab (h:=tkH 10 ab (h:=tkH 11 ab (h:=?_))))))))))));simp only [zl];refine tkH 12 ab (h:=tkH 13 ab (h:=tkH 14 ab (h:=tkH 15 ab (h:=?_))));simp only [zl];refine oD ?_;go_simp;go_wp2_with fail;go_roundw
      case rel=>exact ⟨i+1,_,by first|rfl|go_num,rfl,aj,Or.inr ao,hf⟩
      case measure=>simp [intOf];omega
    ·
     have n1:¬((i:Int)<(ng:Int)-1):=by omega
     have aj:Hid (rc=(rb&&Bf (fun a b=>decide (a<b)) x.guards)):=by show _=_;rw [a1.out,At5 (by rw [a6.out];omega)]
     replace aa:Hid (EC=if nb=false then 8 else if ib=false then 8 else if lb=true then 2 else if rc=false then 6 else if decide (x.past=[])≠decide ((k:Int)=1) then 10 else 0):=by show _=_;rw [aa.out,<- aj.out]
     have c4:=hf.cell e4 zq;have ap:(fun w'=>Blk w' w.heap.size 55 CS/\cI w' w.heap.size 2 (k:Int)/\cI w' 0 k (kN:Int)) wr:=⟨a7.1.fr hf zq,hf.cell a7.2.1 zq,hf.cell a7.2.2 zq⟩;replace fz:=fz.trans hf zr;clear a1 aj ac hlt hi bj e4 a7 hf;go_wp2_with fail;refine wp_region_held_drew (S:=(fun w'=>Blk w' w.heap.size 55 CS/\cI w' w.heap.size 2 (k:Int)/\cI w' 0 k (kN:Int))) (by kernel_rfl) ap (fun hHeld=> ?_);clear hHeld;replace ap:(fun w'=>Blk w' w.heap.size 55 CS/\cI w' w.heap.size 2 (k:Int)/\cI w' 0 k (kN:Int)) wr.drew:=ap;replace fz:=fz.drew;replace c4:cS wr.drew w.heap.size 4 x.pastA np x.pastC:=c4;generalize wr.drew=v2 at*;refine tkH 0 ap (h:=tkH 1 ap (h:=tkH 2 ap (h:=tkH 3 ap (h:=tkH 4 ap (h:=?_)))));simp only [zl];refine oG 5 (fun K hK=> ?_);go_simp;go_wp2_with (go_at_call 116;(with_reducible refine (kr.out _ fz).mono ?_);rintro _ w3 ⟨rfl,f3⟩);refine hK.out _ _ ⟨ap.1.fr f3 zq,f3.cell ap.2.1 zq,f3.cell ap.2.2 zq⟩ (fun al=> ?_);clear hK K;try simp only [Ai,zl]
     replace fz:=fz.trans f3 zr;replace c4:=f3.cell c4 zq;have bp:=al.1;have c2:=al.2.1;generalize hnib:(nb&&ib)=nib at*
     cases nib
     ·
      have hv:Hid (8=EC):=by show _=_;rw [aa.out];cases nb<;>cases ib<;>first|rfl|cases hnib
      clear aa hnib;refine tkH 6 al (h:=tkH 7 al (h:=?_));simp only [zl];refine oD ?_;go_simp;go_wp2_with fail
      go_ret
      exact ⟨congrArg (fun z=>ze (.int .i64 z)) hv.out,fz⟩
     ·
      obtain ⟨rfl,rfl⟩:nb=true/\ib=true:=by cases nb<;>cases ib<;>first|exact ⟨rfl,rfl⟩|cases hnib
      replace aa:Hid (EC=if lb=true then 2 else if rc=false then 6 else if decide (x.past=[])≠decide ((k:Int)=1) then 10 else 0):=aa;clear hnib;refine tkH 6 al (h:=tkH 7 al (h:=?_));simp only [zl];refine oD ?_;go_simp
      cases lb
      ·
       replace aa:Hid (EC=if rc=false then 6 else if decide (x.past=[])≠decide ((k:Int)=1) then 10 else 0):=aa
       cases rc
       ·
        have hv:Hid (6=EC):=aa.out.symm;clear aa;go_wp2_with (go_at_call 117;(with_reducible refine (kl.out _ fz).mono ?_);rintro _ w4 ⟨rfl,f4⟩;have fz:=fz.trans f4 zr;obtain ⟨c4,c2⟩:=zk2 f4 c4 c2)
        go_ret
        exact ⟨congrArg (fun z=>ze (.int .i64 z)) hv.out,fz⟩
       ·
        replace aa:Hid (EC=if decide (x.past=[])≠decide ((k:Int)=1) then 10 else 0):=aa;have av:Hid (decide (x.past=[])=decide (np=0)):=by show _=_;rw [As9];simp only [decide_eq_true_eq];rw [<- ar.out];exact List.length_eq_zero_iff.symm
        rcases Nat.eq_zero_or_pos np with p0|p0<;>rcases Nat.lt_or_ge 1 k with q0|q0
        ·
         have b1:((np:Int)==0)=true:=by rw [p0];rfl
         have b2:((k:Int)==1)=false:=Cs (by omega);have hv:Hid (10=EC):=by show _=_;rw [aa.out,av.out,if_pos (by rw [decide_eq_true p0,decide_eq_false (by omega)];decide)]
         clear aa av p0 q0 ar;go_wp2_with (go_at_call 117;(with_reducible refine (kl.out _ fz).mono ?_);rintro _ w4 ⟨rfl,f4⟩;have fz:=fz.trans f4 zr;obtain ⟨c4,c2⟩:=zk2 f4 c4 c2)
         go_ret
         exact ⟨congrArg (fun z=>ze (.int .i64 z)) hv.out,fz⟩
        ·
         have b1:((np:Int)==0)=true:=by rw [p0];rfl
         have b2:((k:Int)==1)=true:=Ef (by omega);have hv:Hid (0=EC):=by show _=_;rw [aa.out,av.out,if_neg (by rw [decide_eq_true p0,decide_eq_true (by omega)];decide)]
         clear aa av p0 q0 ar;go_wp2_with (go_at_call 117;(with_reducible refine (kl.out _ fz).mono ?_);rintro _ w4 ⟨rfl,f4⟩;have fz:=fz.trans f4 zr;obtain ⟨c4,c2⟩:=zk2 f4 c4 c2)
         go_ret
         exact ⟨congrArg (fun z=>ze (.int .i64 z)) hv.out,fz⟩
        ·
         have b1:((np:Int)==0)=false:=Cs (by omega);have b2:((k:Int)==1)=false:=Cs (by omega);have hv:Hid (0=EC):=by show _=_;rw [aa.out,av.out,if_neg (by rw [decide_eq_false (by omega),decide_eq_false (by omega)];decide)]
         clear aa av p0 q0 ar;go_wp2_with (go_at_call 117;(with_reducible refine (kl.out _ fz).mono ?_);rintro _ w4 ⟨rfl,f4⟩;have fz:=fz.trans f4 zr;obtain ⟨c4,c2⟩:=zk2 f4 c4 c2)
         go_ret
         exact ⟨congrArg (fun z=>ze (.int .i64 z)) hv.out,fz⟩
        ·
         have b1:((np:Int)==0)=false:=Cs (by omega);have b2:((k:Int)==1)=true:=Ef (by omega);have hv:Hid (10=EC):=by show _=_;rw [aa.out,av.out,if_pos (by rw [decide_eq_false (by omega),decide_eq_true (by omega)];decide)]
         clear aa av p0 q0 ar;go_wp2_with (go_at_call 117;(with_reducible refine (kl.out _ fz).mono ?_);rintro _ w4 ⟨rfl,f4⟩;have fz:=fz.trans f4 zr;obtain ⟨c4,c2⟩:=zk2 f4 c4 c2)
         go_ret
         exact ⟨congrArg (fun z=>ze (.int .i64 z)) hv.out,fz⟩
      ·
       have hv:Hid (2=EC):=aa.out.symm;clear aa;go_wp2_with (go_at_call 117;(with_reducible refine (kl.out _ fz).mono ?_);rintro _ w4 ⟨rfl,f4⟩;have fz:=fz.trans f4 zr;obtain ⟨c4,c2⟩:=zk2 f4 c4 c2)
       go_ret
       exact ⟨congrArg (fun z=>ze (.int .i64 z)) hv.out,fz⟩
end Oq
end
end Go.Proofs.YtgbdljlapmjmnaaGreatDoor
