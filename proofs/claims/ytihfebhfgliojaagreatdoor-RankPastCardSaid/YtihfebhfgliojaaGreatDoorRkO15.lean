/-
  Contracts of the functions that the claim's statement reaches, walked one by one (part 15).
  Conditions: as each theorem says.
-/
import Derived.Test.YtihfebhfgliojaaGreatDoorRkO14
import Derived.Test.YtihfebhfgliojaaGreatDoorRkO59
set_option maxRecDepth 100000
set_option maxHeartbeats 16000000
open Bool renaming and_eq_true->At2,not_false->At4,not_true->At5
open Int renaming lt_or_le->At8
open List renaming getElem?_eq_getElem->As7,map_append->As8,take_of_length_le->As9,mem_of_getElem?->At1,mem_singleton->At3,take_succ_cons->At6,getElem?_map->At7,flatMap_append->Au1,flatMap_cons->Au2,flatMap_nil->Au3
open Nat renaming lt_or_ge->At0,not_lt_zero->At9
open Go.World renaming size_alloc->Au0
open Go.Proofs.Tryz
open Go.Proofs.Tryz renaming prog->zp
open Go.Lib renaming hid->lh
open List renaming set->zl
open Go.Ending renaming returned->ze
namespace Go.Proofs.YtihfebhfgliojaaGreatDoor
namespace Oq
theorem Ah7 (x:OpL):x.bareR=x.op.bareB:=by
 rw [Q9];unfold OpL.bareR OpL.q1 OpL.q2 OpL.q3 OpL.q4 OpL.q5 OpL.q6 OpL.q7 OpL.q8;simp only [OpL.presB,Bn];generalize (x.dev !=0)=a0;generalize (x.old !=0)=a1;generalize (x.mem !=0)=a2;generalize (x.role !=0)=a3;generalize decide (0<x.path.length)=a4;generalize (!Id.eq x.epoch Id.zero)=a5;generalize (x.n !=0)=a6;generalize decide (0<x.body.length)=a7;generalize decide (0<x.refs.length)=a8;generalize (!Id.eq x.of Id.zero)=a9;generalize decide (0<x.guards.length)=a10;generalize (x.need !=0)=a11;generalize (x.wait !=0)=a12;generalize decide (0<x.boxes.length)=a13;generalize ((x.pub:Int) !=0)=a14;have e15:((x.hist.length:Int)==0)=!decide (0<x.hist.length):=by rw [Bool.eq_iff_iff];simp
 rw [e15];generalize decide (0<x.hist.length)=a15;generalize Eo x.kind=kc;generalize Cv x.kind=ko;generalize (x.kind==1)=k1';generalize (x.kind==2)=k2;generalize (x.kind==3)=k3;generalize (x.kind==5)=k5;generalize (x.kind==6)=k6;generalize (x.kind==7)=k7;generalize (x.kind==9)=k9;generalize (x.kind==10)=k10;generalize (x.kind==11)=k11;generalize (x.kind==13)=k13;have r1:∀a b c d e:Bool,(!(a&& !b&& !c&& !d&& !e))=(!a||(b||c||d||e)):=by decide
 have r2:∀a b c d e f g:Bool,(!((a&& !b)||(c&& !d&& !e)||(f&& !g&& !e)))=((!a||b)&&((!c||(d||e))&&(!f||(g||e)))):=by decide
 have r3:∀a b:Bool,(!(a&& !b))=(!a||b):=by decide
 have r4:∀a b c d:Bool,(!(!a&&(b||c||d)))=((!b||a)&&((!c||a)&&(!d||a))):=by decide
 have r5:∀a b c d e:Bool,(!((a&& !b&& !c)||(d&& !e)))=((!a||(b||c))&&(!d||e)):=by decide
 have r7:∀a b c d e f:Bool,(!((a&& !b&& !c)||(d&& !b&& !e&& !f)))=((!a||(b||c))&&(!d||(b||e||f))):=by decide
 have r8:∀a b c:Bool,(!a||b||c)=(!a||(b||c)):=by decide
 rw [r1,r2,r3,r4,r5,r4,r7,r8]
 ac_rfl
end Oq
section
open Go.RowKit
attribute [local go_sem ↓] Go.wp_at_zero Go.wp_at_succ
namespace Oq
attribute [local go_sem] At4 At5
theorem Ah8 (x:OpL) (w:World) (hat:x.at w w.heap.size) (hok:x.op.ok):Calls zp 112 #[.agg x.cells] w (Ae x.op.longB w):=by
 have af:=Blk.new w 44 x.cells;have f0:Fr Non w (w.alloc (.cells x.cells 44)):=(Fr.refl Non w).alloc _;have c2:cI (w.alloc (.cells x.cells 44)) w.heap.size 2 x.kind:=af.cell 2;have c4:cS (w.alloc (.cells x.cells 44)) w.heap.size 4 x.pastA x.past.length x.pastC:=af.cell 4;have c9:cS (w.alloc (.cells x.cells 44)) w.heap.size 9 x.pathA x.path.length x.pathC:=af.cell 9;have a3:cS (w.alloc (.cells x.cells 44)) w.heap.size 14 x.bodyA x.body.length x.bodyC:=af.cell 14;have a1:cS (w.alloc (.cells x.cells 44)) w.heap.size 15 x.refsA x.refs.length x.refsC:=af.cell 15;have a2:cS (w.alloc (.cells x.cells 44)) w.heap.size 19 x.guardsA x.guards.length x.guardsC:=af.cell 19;have a4:cS (w.alloc (.cells x.cells 44)) w.heap.size 22 x.boxesA x.boxes.length x.boxesC:=af.cell 22;have aq:cS (w.alloc (.cells x.cells 44)) w.heap.size 24 x.histA x.hist.length x.histC:=af.cell 24;have ah:x.path.length<=1000000:=by have h:=hok.path.1;rw [show x.op.path=x.path.map NdL.nd from rfl,List.length_map] at h;omega
 have ag:x.hist.length<=1000000:=by have h:=hok.hist.1;rw [show x.op.hist=x.hist.map SlL.sl from rfl,List.length_map] at h;omega
 have rp:=hat.path.1.fr f0 zr;have rh:=hat.hist.1.fr f0 zr;have aw:=lh (fun w'=>Gt x.body.length 1 20 w');have au:=lh (fun w'=>Gt x.boxes.length 1 6 w');have aa:=lh (Rc x);generalize x.op.longB=LB at*;generalize inR (x.body.length:Int) 1 20=i7 at*;generalize inR (x.boxes.length:Int) 1 6=i10 at*;obtain ⟨n2,ap⟩:=Aa x.path.length;obtain ⟨n5,ao⟩:=Aa x.hist.length;rw [ap.out] at rp ah c9 aa;rw [ao.out] at rh ag aq aa;generalize x.past.length=n1 at*;generalize x.body.length=n3 at*;generalize x.refs.length=n4 at*;generalize x.guards.length=n6 at*;generalize x.boxes.length=n7 at*;generalize x.kind=kd at*;generalize x.cells=CS at*;clear af hat hok;go_enter func112,ntmps112;go_upto_region 1 with (fail)
 generalize w.alloc (.cells CS 44)=w0 at*;go_wp2
 go_loopw [3] (fun v wr=>∃k:Nat,v=.int .i64 (k:Int)/\k<=n2/\Hid (((x.path.take k).all fun y=>decide (y.xs.length<=12))=true)/\w0=wr) (fun v _=>n2-(intOf v).toNat)
 case atStart=>exact ⟨0,rfl,by omega,rfl,rfl⟩
 case round=>
  obtain ⟨k,rfl,hk,hh,rfl⟩:=hrel
  by_cases hlt:k<n2
  ·
   have i1:(0:Int)<=k:=by omega
   have i2:(k:Int)<n2:=by omega
   have i3:(k:Int).toNat=k:=by omega
   obtain ⟨y,hy⟩:∃y,x.path[k]? =some y:=⟨_,As7 (by rw [ap.out];exact hlt)⟩;obtain ⟨b,az,hA,ax,k0,k1⟩:=NdL.el rp hy;rw [hA] at c9;have ad:=At1 hy;have aj:Hid (((x.path.take (k+1)).all fun y=>decide (y.xs.length<=12))=(((x.path.take k).all fun y=>decide (y.xs.length<=12))&&decide (y.xs.length<=12))):=Fh x.path (fun y=>decide (y.xs.length<=12)) hy;have ak:Hid (decide (y.xs.length<=12)=false->(x.path.all fun y=>decide (y.xs.length<=12))=false):=fun h=>List.all_eq_false.2 ⟨y,ad,by rw [h];simp⟩;clear hy ad
   rcases At0 12 y.xs.length with h|h
   ·
    have t:decide ((12:Int)<(y.xs.length:Int))=true:=decide_eq_true (by omega);have hv:Hid (true=LB):=by show _=_;rw [aa.out,ak.out (decide_eq_false (by omega))];simp
    clear aa ak aj h;go_wp2
    go_ret
    exact ⟨congrArg (fun z=>ze (.bool z)) hv.out,f0⟩
   ·
    have t:decide ((12:Int)<(y.xs.length:Int))=false:=decide_eq_false (by omega);have ai:Hid (((x.path.take (k+1)).all fun y=>decide (y.xs.length<=12))=true):=by show _=_;rw [aj.out,hh.out,decide_eq_true h];rfl
    clear ak aj h;go_wp2;go_roundw
    case rel=>exact ⟨k+1,by go_num,by omega,ai,by first|rfl|trivial⟩
    case measure=>simp [intOf];omega
  ·
   obtain rfl:n2=k:=by omega
   have av:(x.path.all fun y=>decide (y.xs.length<=12))=true:=by have h:=hh.out;rw [As9 (by rw [ap.out];omega)] at h;exact h
   have ae:=aa.out;rw [av] at ae;have ab:=lh ae;clear aa ae av hh rp ah hlt ap;go_wp2
   go_loopw [4] (fun v wr=>∃k:Nat,v=.int .i64 (k:Int)/\k<=n5/\Hid (((x.hist.take k).all fun y=>decide (y.y.length<=208))=true)/\w0=wr) (fun v _=>n5-(intOf v).toNat)
   case atStart=>exact ⟨0,rfl,by omega,rfl,rfl⟩
   case round=>
    obtain ⟨k,rfl,hk,hh,rfl⟩:=hrel
    by_cases hlt:k<n5
    ·
     have i1:(0:Int)<=k:=by omega
     have i2:(k:Int)<n5:=by omega
     have i3:(k:Int).toNat=k:=by omega
     obtain ⟨y,hy⟩:∃y,x.hist[k]? =some y:=⟨_,As7 (by rw [ao.out];exact hlt)⟩;obtain ⟨b,az,hA,ax,k0,k1,k2,k3⟩:=SlL.el rh hy;rw [hA] at aq;have ad:=At1 hy;have aj:Hid (((x.hist.take (k+1)).all fun y=>decide (y.y.length<=208))=(((x.hist.take k).all fun y=>decide (y.y.length<=208))&&decide (y.y.length<=208))):=Fh x.hist (fun y=>decide (y.y.length<=208)) hy;have ak:Hid (decide (y.y.length<=208)=false->(x.hist.all fun y=>decide (y.y.length<=208))=false):=fun h=>List.all_eq_false.2 ⟨y,ad,by rw [h];simp⟩;clear hy ad
     rcases At0 208 y.y.length with h|h
     ·
      have t:decide ((208:Int)<(y.y.length:Int))=true:=decide_eq_true (by omega);have hv:Hid (true=LB):=by show _=_;rw [ab.out,ak.out (decide_eq_false (by omega))];simp
      clear ab ak aj h;go_wp2
      go_ret
      exact ⟨congrArg (fun z=>ze (.bool z)) hv.out,f0⟩
     ·
      have t:decide ((208:Int)<(y.y.length:Int))=false:=decide_eq_false (by omega);have ai:Hid (((x.hist.take (k+1)).all fun y=>decide (y.y.length<=208))=true):=by show _=_;rw [aj.out,hh.out,decide_eq_true h];rfl
      clear ak aj h;go_wp2;go_roundw
      case rel=>exact ⟨k+1,by go_num,by omega,ai,by first|rfl|trivial⟩
      case measure=>simp [intOf];omega
    ·
     obtain rfl:n5=k:=by omega
     have ar:(x.hist.all fun y=>decide (y.y.length<=208))=true:=by have h:=hh.out;rw [As9 (by rw [ao.out];omega)] at h;exact h
     have ac:=ab.out;rw [ar] at ac;have aa:=lh ac;clear ab ac ar hh rh ag hlt ao
     rcases zb (decide ((12:Int)<n1)) with h1|h1
     ·
      have hv:Hid (true=LB):=by show _=_;rw [aa.out];simp [h1]
      clear aa;go_wp2
      go_ret
      exact ⟨congrArg (fun z=>ze (.bool z)) hv.out,f0⟩
     rcases zb (decide ((5:Int)<n2)) with h2|h2
     ·
      have hv:Hid (true=LB):=by show _=_;rw [aa.out];simp [h1,h2]
      clear aa;go_wp2
      go_ret
      exact ⟨congrArg (fun z=>ze (.bool z)) hv.out,f0⟩
     rcases zb (decide ((208:Int)<n3)) with h3|h3
     ·
      have hv:Hid (true=LB):=by show _=_;rw [aa.out];simp [h1,h2,h3]
      clear aa;go_wp2
      go_ret
      exact ⟨congrArg (fun z=>ze (.bool z)) hv.out,f0⟩
     rcases zb (decide ((8:Int)<n4)) with h4|h4
     ·
      have hv:Hid (true=LB):=by show _=_;rw [aa.out];simp [h1,h2,h3,h4]
      clear aa;go_wp2
      go_ret
      exact ⟨congrArg (fun z=>ze (.bool z)) hv.out,f0⟩
     rcases zb (decide ((20:Int)<n5)) with h5|h5
     ·
      have hv:Hid (true=LB):=by show _=_;rw [aa.out];simp [h1,h2,h3,h4,h5]
      clear aa;go_wp2
      go_ret
      exact ⟨congrArg (fun z=>ze (.bool z)) hv.out,f0⟩
     rcases zb (decide ((6:Int)<n6)) with h6|h6
     ·
      have hv:Hid (true=LB):=by show _=_;rw [aa.out];simp [h1,h2,h3,h4,h5,h6]
      clear aa;go_wp2
      go_ret
      exact ⟨congrArg (fun z=>ze (.bool z)) hv.out,f0⟩
     rcases zb (kd==7) with k7|k7
     ·
      have hv:Hid ((!i7)=LB):=by show _=_;have p:kd=7:=(by simpa using k7);rw [aa.out];simp [h1,h2,h3,h4,h5,h6,p]
      clear aa
      cases i7
      all_goals
       go_wp2_with (first
        |(go_at_call 143;(with_reducible refine (aw.out _).mono ?_);rintro _ v3 ⟨rfl,f3⟩;have al:=f0.trans f3 zr)
        |(go_at_call 143;(with_reducible refine (au.out _).mono ?_);rintro _ v3 ⟨rfl,f3⟩;have al:=f0.trans f3 zr))
       go_ret
       exact ⟨congrArg (fun z=>ze (.bool z)) hv.out,al⟩
     rcases zb (kd==9) with k9|k9
     ·
      have hv:Hid ((((n7:Int) !=n6))=LB):=by show _=_;have p:kd=9:=(by simpa using k9);rw [aa.out];simp [h1,h2,h3,h4,h5,h6,p]
      clear aa;go_wp2
      go_ret
      exact ⟨congrArg (fun z=>ze (.bool z)) hv.out,f0⟩
     rcases zb (kd==10) with k10|k10
     ·
      have hv:Hid ((!i10)=LB):=by show _=_;have p:kd=10:=(by simpa using k10);rw [aa.out];simp [h1,h2,h3,h4,h5,h6,p]
      clear aa
      cases i10
      all_goals
       go_wp2_with (first
        |(go_at_call 143;(with_reducible refine (aw.out _).mono ?_);rintro _ v3 ⟨rfl,f3⟩;have al:=f0.trans f3 zr)
        |(go_at_call 143;(with_reducible refine (au.out _).mono ?_);rintro _ v3 ⟨rfl,f3⟩;have al:=f0.trans f3 zr))
       go_ret
       exact ⟨congrArg (fun z=>ze (.bool z)) hv.out,al⟩
     rcases zb (kd==11) with k11|k11
     ·
      have hv:Hid ((((n7:Int) !=1))=LB):=by show _=_;have p:kd=11:=(by simpa using k11);rw [aa.out];simp [h1,h2,h3,h4,h5,h6,p]
      clear aa;go_wp2
      go_ret
      exact ⟨congrArg (fun z=>ze (.bool z)) hv.out,f0⟩
     ·
      have hv:Hid ((false)=LB):=by show _=_;have q7:¬kd=7:=(by simpa using k7);have q9:¬kd=9:=(by simpa using k9);have ay:¬kd=10:=(by simpa using k10);have a0:¬kd=11:=(by simpa using k11);rw [aa.out];simp [h1,h2,h3,h4,h5,h6,q7,q9,ay,a0]
      clear aa;go_wp2
      go_ret
      exact ⟨congrArg (fun z=>ze (.bool z)) hv.out,f0⟩
end Oq
namespace Oq
attribute [local go_sem] At4 At5
attribute [local go_sem ↓] Cq
theorem Ah9 {α:Type} (r:α->α->Bool) (l:List α) (n:Nat) (h:Ap r l=true):Ap r (l.take n)=true:=by
 induction l generalizing n with
 |nil=>simp [Ap]
 |cons a t ih=>
  cases n with
  |zero=>rfl
  |succ n=>
   cases t with
   |nil=>cases n<;>rfl
   |cons b t=>
    have h2:(r a b&&Ap r (b::t))=true:=h;rw [At2] at h2
    cases n with
    |zero=>rfl
    |succ n=>
     have h3:=ih (n+1) h2.2;rw [At6] at h3;rw [At6,At6];show (r a b&&Ap r (b::t.take n))=true;rw [h2.1,h3];rfl
theorem Ry {α:Type} (r:α->α->Bool) (l:List α) {k:Nat} {x y:α} (hx:l[k]? =some x) (hy:l[k+1]? =some y) (h:r x y=false):Ap r l=false:=by
 cases hc:Ap r l with
 |false=>rfl
 |true=>
  have h1:=Ah9 r l (k+2) hc;rw [Hq r l hx hy,h,Bool.and_false] at h1
  cases h1
theorem Ai0 (x:OpL) (w:World) (hat:x.at w w.heap.size) (hok:x.op.ok):Calls zp 55 #[.agg x.cells] w (Ju x.op.chk w):=by
 have a6:x.cells.size=27:=rfl;have a5:(zp.info? 44).map (·.size)=some x.cells.size:=by rw [a6];kernel_rfl
 have bc:=Bk (P:=zp) w.heap.size 44 underlying44 rfl a5;have hb:=Blk.new w 44 x.cells;have fz:Fr Non w (w.alloc (.cells x.cells 44)):=(Fr.refl Non w).alloc _;have c2:cI (w.alloc (.cells x.cells 44)) w.heap.size 2 x.kind:=hb.cell 2;have c4:cS (w.alloc (.cells x.cells 44)) w.heap.size 4 x.pastA x.past.length x.pastC:=hb.cell 4;have ad:cS (w.alloc (.cells x.cells 44)) w.heap.size 19 x.guardsA x.guards.length x.guardsC:=hb.cell 19;have ah:x.guards.length<=1000000:=by have h:=hok.guards.1;rw [show x.op.guards=x.guards from rfl] at h;omega
 have aw:x.past.length<=1000000:=by have h:=hok.past.1;rw [show x.op.past=x.past from rfl] at h;omega
 have ab:=hat.past.1.fr fz zr;have aa:=hat.guards.1.fr fz zr;have kb:=lh (fun (w':World)=>Aa1 x w');have kn:=lh (fun (w':World)=>Z2 x w');have ki:=lh (fun (w':World) (h:Fr Non w w')=>Z1 x w' ((hat.fr h zr).mono h.size) hok);have kl:=lh (fun (w':World) (h:Fr Non w w')=>Ah8 x w' ((hat.fr h zr).mono h.size) hok);rw [Ah7] at kb;rw [Z8] at kn;rw [Z5] at ki;have ac:Hid (x.op.chk=if x.kind<1\/13<x.kind then 1 else if x.op.bareB=false then 1 else if x.op.numsB=false then 8 else if x.op.itemsB=false then 8 else if x.op.longB=true then 2 else if (Ap Id.less x.past&&Ap (fun a b=>decide (a<b)) x.guards)=false then 6 else if decide (x.past=[])≠decide (x.kind=1) then 10 else 0):=rfl;generalize x.op.chk=EC at*;clear hat hok a6 a5;have ao:Hid (∀w',Calls zp 109 #[.agg x.cells] w' (Ae x.op.bareB w')):=kb.out;have aq:Hid (∀w',Calls zp 110 #[.agg x.cells] w' (Ae x.op.numsB w')):=kn.out;clear kb kn;generalize x.cells=CS at*;generalize x.op.bareB=bb at*;generalize x.op.numsB=nb at*;generalize x.op.itemsB=ib at*;generalize x.op.longB=lb at*;obtain ⟨kk,a7⟩:=Aa x.kind;rw [a7.out] at c2 ac;clear a7;obtain ⟨np,ag⟩:=Aa x.past.length;rw [ag.out] at ab aw c4;obtain ⟨ng,ax⟩:=Aa x.guards.length;rw [ax.out] at aa ah ad
 rcases zb (decide (kk<1)) with k1|k1
 ·
  have hv:Hid (1=EC):=by show _=_;rw [ac.out,if_pos (Or.inl (of_decide_eq_true k1))]
  clear ac;go_enter func55,ntmps55;go_wp2_with (first|(go_at_call 109;(with_reducible refine (ao.out _).mono ?_);rintro _ v ⟨rfl,f⟩;have fz:=fz.trans f zr;have hb:=hb.fr f zq;have c2:=f.cell c2 zq;have c4:=f.cell c4 zq;have ad:=f.cell ad zq;have ab:=ab.fr f zr;have aa:=aa.fr f zr)|(go_at_call 110;(with_reducible refine (aq.out _).mono ?_);rintro _ v ⟨rfl,f⟩;have fz:=fz.trans f zr;have hb:=hb.fr f zq;have c2:=f.cell c2 zq;have c4:=f.cell c4 zq;have ad:=f.cell ad zq;have ab:=ab.fr f zr;have aa:=aa.fr f zr)|(go_at_call 111;(with_reducible refine (ki.out _ fz).mono ?_);rintro _ v ⟨rfl,f⟩;have fz:=fz.trans f zr;have hb:=hb.fr f zq;have c2:=f.cell c2 zq;have c4:=f.cell c4 zq;have ad:=f.cell ad zq;have ab:=ab.fr f zr;have aa:=aa.fr f zr)|(go_at_call 112;(with_reducible refine (kl.out _ fz).mono ?_);rintro _ v ⟨rfl,f⟩;have fz:=fz.trans f zr;have hb:=hb.fr f zq;have c2:=f.cell c2 zq;have c4:=f.cell c4 zq;have ad:=f.cell ad zq;have ab:=ab.fr f zr;have aa:=aa.fr f zr))
  go_ret
  exact ⟨congrArg (fun z=>ze (.int .i64 z)) hv.out,fz⟩
 rcases zb (decide ((13:Int)<kk)) with k13|k13
 ·
  have hv:Hid (1=EC):=by show _=_;rw [ac.out,if_pos (Or.inr (of_decide_eq_true k13))]
  clear ac;go_enter func55,ntmps55;go_wp2_with (first|(go_at_call 109;(with_reducible refine (ao.out _).mono ?_);rintro _ v ⟨rfl,f⟩;have fz:=fz.trans f zr;have hb:=hb.fr f zq;have c2:=f.cell c2 zq;have c4:=f.cell c4 zq;have ad:=f.cell ad zq;have ab:=ab.fr f zr;have aa:=aa.fr f zr)|(go_at_call 110;(with_reducible refine (aq.out _).mono ?_);rintro _ v ⟨rfl,f⟩;have fz:=fz.trans f zr;have hb:=hb.fr f zq;have c2:=f.cell c2 zq;have c4:=f.cell c4 zq;have ad:=f.cell ad zq;have ab:=ab.fr f zr;have aa:=aa.fr f zr)|(go_at_call 111;(with_reducible refine (ki.out _ fz).mono ?_);rintro _ v ⟨rfl,f⟩;have fz:=fz.trans f zr;have hb:=hb.fr f zq;have c2:=f.cell c2 zq;have c4:=f.cell c4 zq;have ad:=f.cell ad zq;have ab:=ab.fr f zr;have aa:=aa.fr f zr)|(go_at_call 112;(with_reducible refine (kl.out _ fz).mono ?_);rintro _ v ⟨rfl,f⟩;have fz:=fz.trans f zr;have hb:=hb.fr f zq;have c2:=f.cell c2 zq;have c4:=f.cell c4 zq;have ad:=f.cell ad zq;have ab:=ab.fr f zr;have aa:=aa.fr f zr))
  go_ret
  exact ⟨congrArg (fun z=>ze (.int .i64 z)) hv.out,fz⟩
 replace ac:Hid (EC=if bb=false then 1 else if nb=false then 8 else if ib=false then 8 else if lb=true then 2 else if (Ap Id.less x.past&&Ap (fun a b=>decide (a<b)) x.guards)=false then 6 else if decide (x.past=[])≠decide (kk=1) then 10 else 0):=by show _=_;rw [ac.out,if_neg (by have a:=of_decide_eq_false k1;have b:=of_decide_eq_false k13;omega)]
 cases bb
 ·
  have hv:Hid (1=EC):=ac.out.symm;clear ac;go_enter func55,ntmps55;go_wp2_with (first|(go_at_call 109;(with_reducible refine (ao.out _).mono ?_);rintro _ v ⟨rfl,f⟩;have fz:=fz.trans f zr;have hb:=hb.fr f zq;have c2:=f.cell c2 zq;have c4:=f.cell c4 zq;have ad:=f.cell ad zq;have ab:=ab.fr f zr;have aa:=aa.fr f zr)|(go_at_call 110;(with_reducible refine (aq.out _).mono ?_);rintro _ v ⟨rfl,f⟩;have fz:=fz.trans f zr;have hb:=hb.fr f zq;have c2:=f.cell c2 zq;have c4:=f.cell c4 zq;have ad:=f.cell ad zq;have ab:=ab.fr f zr;have aa:=aa.fr f zr)|(go_at_call 111;(with_reducible refine (ki.out _ fz).mono ?_);rintro _ v ⟨rfl,f⟩;have fz:=fz.trans f zr;have hb:=hb.fr f zq;have c2:=f.cell c2 zq;have c4:=f.cell c4 zq;have ad:=f.cell ad zq;have ab:=ab.fr f zr;have aa:=aa.fr f zr)|(go_at_call 112;(with_reducible refine (kl.out _ fz).mono ?_);rintro _ v ⟨rfl,f⟩;have fz:=fz.trans f zr;have hb:=hb.fr f zq;have c2:=f.cell c2 zq;have c4:=f.cell c4 zq;have ad:=f.cell ad zq;have ab:=ab.fr f zr;have aa:=aa.fr f zr))
  go_ret
  exact ⟨congrArg (fun z=>ze (.int .i64 z)) hv.out,fz⟩
 cases nb
 ·
  have hv:Hid (8=EC):=ac.out.symm;clear ac;go_enter func55,ntmps55;go_wp2_with (first|(go_at_call 109;(with_reducible refine (ao.out _).mono ?_);rintro _ v ⟨rfl,f⟩;have fz:=fz.trans f zr;have hb:=hb.fr f zq;have c2:=f.cell c2 zq;have c4:=f.cell c4 zq;have ad:=f.cell ad zq;have ab:=ab.fr f zr;have aa:=aa.fr f zr)|(go_at_call 110;(with_reducible refine (aq.out _).mono ?_);rintro _ v ⟨rfl,f⟩;have fz:=fz.trans f zr;have hb:=hb.fr f zq;have c2:=f.cell c2 zq;have c4:=f.cell c4 zq;have ad:=f.cell ad zq;have ab:=ab.fr f zr;have aa:=aa.fr f zr)|(go_at_call 111;(with_reducible refine (ki.out _ fz).mono ?_);rintro _ v ⟨rfl,f⟩;have fz:=fz.trans f zr;have hb:=hb.fr f zq;have c2:=f.cell c2 zq;have c4:=f.cell c4 zq;have ad:=f.cell ad zq;have ab:=ab.fr f zr;have aa:=aa.fr f zr)|(go_at_call 112;(with_reducible refine (kl.out _ fz).mono ?_);rintro _ v ⟨rfl,f⟩;have fz:=fz.trans f zr;have hb:=hb.fr f zq;have c2:=f.cell c2 zq;have c4:=f.cell c4 zq;have ad:=f.cell ad zq;have ab:=ab.fr f zr;have aa:=aa.fr f zr))
  go_ret
  exact ⟨congrArg (fun z=>ze (.int .i64 z)) hv.out,fz⟩
 cases ib
 ·
  have hv:Hid (8=EC):=ac.out.symm;clear ac;go_enter func55,ntmps55;go_wp2_with (first|(go_at_call 109;(with_reducible refine (ao.out _).mono ?_);rintro _ v ⟨rfl,f⟩;have fz:=fz.trans f zr;have hb:=hb.fr f zq;have c2:=f.cell c2 zq;have c4:=f.cell c4 zq;have ad:=f.cell ad zq;have ab:=ab.fr f zr;have aa:=aa.fr f zr)|(go_at_call 110;(with_reducible refine (aq.out _).mono ?_);rintro _ v ⟨rfl,f⟩;have fz:=fz.trans f zr;have hb:=hb.fr f zq;have c2:=f.cell c2 zq;have c4:=f.cell c4 zq;have ad:=f.cell ad zq;have ab:=ab.fr f zr;have aa:=aa.fr f zr)|(go_at_call 111;(with_reducible refine (ki.out _ fz).mono ?_);rintro _ v ⟨rfl,f⟩;have fz:=fz.trans f zr;have hb:=hb.fr f zq;have c2:=f.cell c2 zq;have c4:=f.cell c4 zq;have ad:=f.cell ad zq;have ab:=ab.fr f zr;have aa:=aa.fr f zr)|(go_at_call 112;(with_reducible refine (kl.out _ fz).mono ?_);rintro _ v ⟨rfl,f⟩;have fz:=fz.trans f zr;have hb:=hb.fr f zq;have c2:=f.cell c2 zq;have c4:=f.cell c4 zq;have ad:=f.cell ad zq;have ab:=ab.fr f zr;have aa:=aa.fr f zr))
  go_ret
  exact ⟨congrArg (fun z=>ze (.int .i64 z)) hv.out,fz⟩
 cases lb
 rotate_left
 ·
  have hv:Hid (2=EC):=ac.out.symm;clear ac;go_enter func55,ntmps55;go_wp2_with (first|(go_at_call 109;(with_reducible refine (ao.out _).mono ?_);rintro _ v ⟨rfl,f⟩;have fz:=fz.trans f zr;have hb:=hb.fr f zq;have c2:=f.cell c2 zq;have c4:=f.cell c4 zq;have ad:=f.cell ad zq;have ab:=ab.fr f zr;have aa:=aa.fr f zr)|(go_at_call 110;(with_reducible refine (aq.out _).mono ?_);rintro _ v ⟨rfl,f⟩;have fz:=fz.trans f zr;have hb:=hb.fr f zq;have c2:=f.cell c2 zq;have c4:=f.cell c4 zq;have ad:=f.cell ad zq;have ab:=ab.fr f zr;have aa:=aa.fr f zr)|(go_at_call 111;(with_reducible refine (ki.out _ fz).mono ?_);rintro _ v ⟨rfl,f⟩;have fz:=fz.trans f zr;have hb:=hb.fr f zq;have c2:=f.cell c2 zq;have c4:=f.cell c4 zq;have ad:=f.cell ad zq;have ab:=ab.fr f zr;have aa:=aa.fr f zr)|(go_at_call 112;(with_reducible refine (kl.out _ fz).mono ?_);rintro _ v ⟨rfl,f⟩;have fz:=fz.trans f zr;have hb:=hb.fr f zq;have c2:=f.cell c2 zq;have c4:=f.cell c4 zq;have ad:=f.cell ad zq;have ab:=ab.fr f zr;have aa:=aa.fr f zr))
  go_ret
  exact ⟨congrArg (fun z=>ze (.int .i64 z)) hv.out,fz⟩
 replace ac:Hid (EC=if (Ap Id.less x.past&&Ap (fun a b=>decide (a<b)) x.guards)=false then 6 else if decide (x.past=[])≠decide (kk=1) then 10 else 0):=ac;go_enter func55,ntmps55;go_wp2_with (first|(go_at_call 109;(with_reducible refine (ao.out _).mono ?_);rintro _ v ⟨rfl,f⟩;have fz:=fz.trans f zr;have hb:=hb.fr f zq;have c2:=f.cell c2 zq;have c4:=f.cell c4 zq;have ad:=f.cell ad zq;have ab:=ab.fr f zr;have aa:=aa.fr f zr)|(go_at_call 110;(with_reducible refine (aq.out _).mono ?_);rintro _ v ⟨rfl,f⟩;have fz:=fz.trans f zr;have hb:=hb.fr f zq;have c2:=f.cell c2 zq;have c4:=f.cell c4 zq;have ad:=f.cell ad zq;have ab:=ab.fr f zr;have aa:=aa.fr f zr)|(go_at_call 111;(with_reducible refine (ki.out _ fz).mono ?_);rintro _ v ⟨rfl,f⟩;have fz:=fz.trans f zr;have hb:=hb.fr f zq;have c2:=f.cell c2 zq;have c4:=f.cell c4 zq;have ad:=f.cell ad zq;have ab:=ab.fr f zr;have aa:=aa.fr f zr)|(go_at_call 112;(with_reducible refine (kl.out _ fz).mono ?_);rintro _ v ⟨rfl,f⟩;have fz:=fz.trans f zr;have hb:=hb.fr f zq;have c2:=f.cell c2 zq;have c4:=f.cell c4 zq;have ad:=f.cell ad zq;have ab:=ab.fr f zr;have aa:=aa.fr f zr));generalize hgv:v=v1 at*
 go_loopw [3] (fun v wr=>∃(i:Nat),v=.int .i64 ((i:Int)+1)/\Hid (Ap Id.less (x.past.take (i+1))=true)/\(i=0\/i+1<=np)/\Fr Non v1 wr) (fun v _=>np+1-(intOf v).toNat)
 case atStart=>exact ⟨0,rfl,Jv _ _,Or.inl rfl,Fr.refl _ _⟩
 case round=>
  obtain ⟨i,rfl,ay,hi,hf⟩:=hrel
  by_cases hlt:i+1<np
  ·
   have n1:(i:Int)+1<np:=by omega
   have n2:(0:Int)<=i:=by omega
   have n3:(i:Int)<np:=by omega
   have n4:(i:Int).toNat=i:=by omega
   have n5:IntKind.i64.wrap ((i:Int)+1)=(i:Int)+1:=IntWalk.i64_in _ (by omega);have n6:(0:Int)<=(i:Int)+1:=by omega
   have n8:((i:Int)+1).toNat=i+1:=by omega
   have n9:(i:Int)+1-1=i:=by omega
   have a8:IntKind.i64.wrap (i:Int)=(i:Int):=IntWalk.i64_in _ (by omega);obtain ⟨y,hy⟩:∃y,x.past[i]? =some y:=⟨_,As7 (by rw [ag.out];omega)⟩;obtain ⟨z,hz⟩:∃z,x.past[i+1]? =some z:=⟨_,As7 (by rw [ag.out];omega)⟩;obtain ⟨b,af,hA,a9,e0,e1,e2⟩:=Id.at (ab.fr hf zr) hy;obtain ⟨b',aj,au,ak,g0,g1,g2⟩:=Id.at (ab.fr hf zr) hz;rw [hA] at au;obtain ⟨rfl,rfl⟩:b=b'/\af=aj:=by cases au;exact ⟨rfl,rfl⟩
   clear au ak;have cc:=hf.cell c4 zq;rw [hA] at cc;have ar:Hid (Ap Id.less (x.past.take (i+2))=(Ap Id.less (x.past.take (i+1))&&Id.less y z)):=Hq Id.less x.past hy hz;have al:Hid (Id.less y z=false->Ap Id.less x.past=false):=Ry Id.less x.past hy hz;have ap:i+2<=np:=by omega
   have kL:=lh (fun w'=>La y z w');generalize Id.less y z=lyz at*;clear hy hz hi hlt hA;go_upto_region 12 with (fail)
   refine wp_region_held_drew (S:=(fun w'=>cS w' w.heap.size 4 (some ⟨b,af,none⟩) np x.pastC/\cI w' b (af+i*3) y.b/\cI w' b (af+i*3+1) y.s/\cU w' b (af+i*3+2) y.u/\cI w' b (af+(i+1)*3) z.b/\cI w' b (af+(i+1)*3+1) z.s/\cU w' b (af+(i+1)*3+2) z.u)) (by kernel_rfl) ⟨cc,e0,e1,e2,g0,g1,g2⟩ (fun ae=> ?_);replace hf:=hf.drew;clear cc e0 e1 e2 g0 g1 g2;generalize wr.drew=wq at*;refine tkH 0 ae (h:=tkH 1 ae (h:=tkH 2 ae (h:=tkH 3 ae (h:=tkH 4 ae (h:=tkH 5 ae (h:=tkH 6 ae (h:=tkH 7 ae (h:=tkH 8 ae (h:=tkH 9 ae (h:=tkH 10 ae (h:=?_)))))))))));simp only [zl];refine oG 11 (fun K hK=> ?_);go_simp;go_wp2_with (go_at_call 95;(with_reducible refine (kL.out _).mono ?_);rintro _ w3 ⟨rfl,f3⟩);refine hK.out _ _ ⟨f3.cell ae.1 zq,f3.cell ae.2.1 zq,f3.cell ae.2.2.1 zq,f3.cell ae.2.2.2.1 zq,f3.cell ae.2.2.2.2.1 zq,f3.cell ae.2.2.2.2.2.1 zq,f3.cell ae.2.2.2.2.2.2 zq⟩ (fun a2=> ?_);clear hK K;try simp only [Ad,zl]
   replace hf:=hf.trans f3 zr
   cases lyz
   ·
    have hv:Hid (6=EC):=by show _=_;rw [ac.out,if_pos (by rw [al.out rfl];rfl)]
    clear ac al ar;refine tkH 12 a2 (h:=?_);simp only [zl];refine oD ?_;go_simp;go_wp2_with fail
    go_ret
    exact ⟨congrArg (fun z=>ze (.int .i64 z)) hv.out,fz.trans hf zr⟩
   ·
    have a4:Hid (Ap Id.less (x.past.take (i+2))=true):=by show _=_;rw [ar.out,ay.out];rfl
    clear ay ar al;refine tkH 12 a2 (h:=?_);simp only [zl];refine oD ?_;go_simp;go_wp2_with fail;go_roundw
    case rel=>exact ⟨i+1,by first|rfl|go_num,a4,Or.inr ap,hf⟩
    case measure=>simp [intOf];omega
  ·
   have n1:¬((i:Int)+1<np):=by omega
   have av:Ap Id.less x.past=true:=by have h:=ay.out;rw [As9 (by rw [ag.out];omega)] at h;exact h
   replace ac:Hid (EC=if Ap (fun a b=>decide (a<b)) x.guards=false then 6 else if decide (x.past=[])≠decide (kk=1) then 10 else 0):=by show _=_;rw [ac.out,av,Bool.true_and]
   have a1:=hf.cell ad zq;have e4:=hf.cell c4 zq;have e2:=hf.cell c2 zq;replace aa:=aa.fr hf zr;replace fz:=fz.trans hf zr;clear ay av ab hlt hi ad c4 c2 hf hb;generalize hgw:wr=v2 at*;go_wp2_with fail
   go_loopw [4] (fun v wr=>∃(i:Nat),v=.int .i64 ((i:Int)+1)/\Hid (Ap (fun a b=>decide (a<b)) (x.guards.take (i+1))=true)/\(i=0\/i+1<=ng)/\Fr Non v2 wr) (fun v _=>ng+1-(intOf v).toNat)
   case atStart=>exact ⟨0,rfl,Jv _ _,Or.inl rfl,Fr.refl _ _⟩
   case round=>
    obtain ⟨i,rfl,az,hi,hf⟩:=hrel
    by_cases hlt:i+1<ng
    ·
     have n1:(i:Int)+1<ng:=by omega
     have n2:(0:Int)<=i:=by omega
     have n3:(i:Int)<ng:=by omega
     have n4:(i:Int).toNat=i:=by omega
     have n5:IntKind.i64.wrap ((i:Int)+1)=(i:Int)+1:=IntWalk.i64_in _ (by omega);have n6:(0:Int)<=(i:Int)+1:=by omega
     have n8:((i:Int)+1).toNat=i+1:=by omega
     have n9:(i:Int)+1-1=i:=by omega
     have a8:IntKind.i64.wrap (i:Int)=(i:Int):=IntWalk.i64_in _ (by omega);obtain ⟨y,hy⟩:∃y,x.guards[i]? =some y:=⟨_,As7 (by rw [ax.out];omega)⟩;obtain ⟨z,hz⟩:∃z,x.guards[i+1]? =some z:=⟨_,As7 (by rw [ax.out];omega)⟩;obtain ⟨b,af,u,hA,a9,hu,e0⟩:=(aa.fr hf zr).at (show i<ng by omega);obtain ⟨b',aj,u',au,ak,a3,g0⟩:=(aa.fr hf zr).at (show i+1<ng by omega);rw [At7,hy] at hu;rw [At7,hz] at a3;obtain rfl:=(Option.some.inj hu).symm;obtain rfl:=(Option.some.inj a3).symm;rw [hA] at au;obtain ⟨rfl,rfl⟩:b=b'/\af=aj:=by cases au;exact ⟨rfl,rfl⟩
     replace e0:cI wr b (af+i) y:=e0;replace g0:cI wr b (af+(i+1)) z:=g0;clear au ak hu a3;have cc:=hf.cell a1 zq;rw [hA] at cc;have ar:Hid (Ap (fun a b=>decide (a<b)) (x.guards.take (i+2))=(Ap (fun a b=>decide (a<b)) (x.guards.take (i+1))&&decide (y<z))):=Hq (fun (a b:Int)=>decide (a<b)) x.guards hy hz;have al:Hid (decide (y<z)=false->Ap (fun (a b:Int)=>decide (a<b)) x.guards=false):=Ry (fun (a b:Int)=>decide (a<b)) x.guards hy hz;have ap:i+2<=ng:=by omega
     clear hy hz hi hlt hA;go_upto_region 17 with (fail)
     refine wp_region_held_drew (S:=(fun w'=>cS w' w.heap.size 19 (some ⟨b,af,none⟩) ng x.guardsC/\cI w' b (af+i) y/\cI w' b (af+(i+1)) z)) (by kernel_rfl) ⟨cc,e0,g0⟩ (fun ae=> ?_);replace hf:=hf.drew;clear cc e0 g0;generalize wr.drew=wq at*
     by_cases t:y<z
     ·
      have a0:Hid (Ap (fun a b=>decide (a<b)) (x.guards.take (i+2))=true):=by show _=_;rw [ar.out,az.out,decide_eq_true t];rfl
      have t1:decide (z<=y)=false:=decide_eq_false (by omega);have t2:decide (y>=z)=false:=t1;clear az ar al t;refine tkH 0 ae (h:=tkH 1 ae (h:=tkH 2 ae (h:=tkH 3 ae (h:=tkH 4 ae (h:=tkH 5 ae (h:=tkH 6 ae (h:=tkH 7 ae (h:=tkH 8 ae (h:=tkH 9 ae (h:=tkH 10 ae (h:=tkH 11 ae (h:=?_))))))))))));simp only [zl];refine oD ?_;go_simp;go_wp2_with fail;go_roundw
      case rel=>exact ⟨i+1,by first|rfl|go_num,a0,Or.inr ap,hf⟩
      case measure=>simp [intOf];omega
     ·
      have hv:Hid (6=EC):=by show _=_;rw [ac.out,if_pos (by rw [al.out (decide_eq_false (by omega))])]
      have t1:decide (z<=y)=true:=decide_eq_true (by omega);have t2:decide (y>=z)=true:=t1;clear ac ar al t;refine tkH 0 ae (h:=tkH 1 ae (h:=tkH 2 ae (h:=tkH 3 ae (h:=tkH 4 ae (h:=tkH 5 ae (h:=tkH 6 ae (h:=tkH 7 ae (h:=tkH 8 ae (h:=tkH 9 ae (h:=tkH 10 ae (h:=tkH 11 ae (h:=?_))))))))))));simp only [zl];refine oD ?_;go_simp;go_wp2_with fail
      go_ret
      exact ⟨congrArg (fun z=>ze (.int .i64 z)) hv.out,fz.trans hf zr⟩
    ·
     have n1:¬((i:Int)+1<ng):=by omega
     have av:Ap (fun (a b:Int)=>decide (a<b)) x.guards=true:=by have h:=az.out;rw [As9 (by rw [ax.out];omega)] at h;exact h
     replace ac:Hid (EC=if decide (x.past=[])≠decide (kk=1) then 10 else 0):=by show _=_;rw [ac.out,av];rfl
     have c4:=hf.cell e4 zq;have c2:=hf.cell e2 zq;have ba:=hf.cell a1 zq;replace fz:=fz.trans hf zr;clear az av aa hlt hi a1 e4 e2 hf;have ai:Hid (decide (x.past=[])=decide (np=0)):=by show _=_;rw [Bool.eq_iff_iff];simp only [decide_eq_true_eq];rw [<- ag.out];exact List.length_eq_zero_iff.symm
     by_cases p0:np=0<;>by_cases q0:kk=1
     ·
      have b1:((np:Int)==0)=true:=C9 (by omega);have b2:(kk==1)=true:=C9 q0;have hv:Hid (0=EC):=by show _=_;rw [ac.out,ai.out,if_neg (by rw [decide_eq_true p0,decide_eq_true q0];decide)]
      clear ac ai p0 q0 ag;go_wp2_with fail
      go_ret
      exact ⟨congrArg (fun z=>ze (.int .i64 z)) hv.out,fz⟩
     ·
      have b1:((np:Int)==0)=true:=C9 (by omega);have b2:(kk==1)=false:=C5 q0;have hv:Hid (10=EC):=by show _=_;rw [ac.out,ai.out,if_pos (by rw [decide_eq_true p0,decide_eq_false q0];decide)]
      clear ac ai p0 q0 ag;go_wp2_with fail
      go_ret
      exact ⟨congrArg (fun z=>ze (.int .i64 z)) hv.out,fz⟩
     ·
      have b1:((np:Int)==0)=false:=C5 (by omega);have b2:(kk==1)=true:=C9 q0;have hv:Hid (10=EC):=by show _=_;rw [ac.out,ai.out,if_pos (by rw [decide_eq_false p0,decide_eq_true q0];decide)]
      clear ac ai p0 q0 ag;go_wp2_with fail
      go_ret
      exact ⟨congrArg (fun z=>ze (.int .i64 z)) hv.out,fz⟩
     ·
      have b1:((np:Int)==0)=false:=C5 (by omega);have b2:(kk==1)=false:=C5 q0;have hv:Hid (0=EC):=by show _=_;rw [ac.out,ai.out,if_neg (by rw [decide_eq_false p0,decide_eq_false q0];decide)]
      clear ac ai p0 q0 ag;go_wp2_with fail
      go_ret
      exact ⟨congrArg (fun z=>ze (.int .i64 z)) hv.out,fz⟩
end Oq
namespace Oq
attribute [local go_sem] At4 At5
attribute [local go_sem ↓] Cz Cq
theorem Rz (y:OpL) (nm:Id) (hn:y.op.name=nm) (w:World) (hat:y.at w w.heap.size) (hok:y.op.ok):Calls zp 57 #[.agg y.cells] w fun e w'=>e=.returned (.agg nm.V)/\Fr Non w w':=by
 have k:=Wj y w hat hok;obtain ⟨b,s,u⟩:=nm;unfold Op.name at hn;injection hn with h1 h2 h3
 rw [h3,show y.by_=b from h1,show y.sq=s from h2] at k;exact k
theorem R3 {o:Op} (h:o.chk=0):1<=o.sq/\o.sq<=2147483647/\0<=o.at_:=by
 have h1:=(chk_ok.1 h).2.2.1;unfold Op.numsB at h1;simp only [At2] at h1;have h2:=h1.1.1.2;have h3:=h1.1.2;unfold inR at h2 h3;simp only [At2,decide_eq_true_eq] at h2 h3;exact ⟨h2.1,h2.2,h3.1⟩
theorem Ai1 {l:List Pn} {ids:List Id} {k p:Nat} {y:Id} (hy:ids[k]? =some y) (hp:plc l y=some p):Ao l (ids.take (k+1))=Ao l (ids.take k)++[p]:=by
 unfold Ao;rw [Dh hy,As8,List.map_cons,List.map_nil,hp];rfl
def Hw (cards:List Cd) (l:List Pn) (o:Op) (w:World) (e:Ending) (w':World):Prop:=
 ∃A n c,e=.returned (.tuple #[.int .i64 (An cards l o),.slice A n c])/\(An cards l o=0->n=o.past.length/\Own w' w.heap.size 3 1 A n c ((Ao l o.past).map Qv))/\Fr Non w w'
theorem Ai2 (base:Nat) (r:RG) (x:OpL) (w:World) (h:r.own w base) (hat:x.at w w.heap.size) (hok:x.op.ok):
  Calls zp 16 #[.agg r.cells,.agg x.cells] w (Hw r.cards r.l x.op w):=by
 have b6:=h.few;have d0:x.past.length<=1000:=hok.past.1;have bg:=(Blk.new w 32 r.cells).alloc (.cells x.cells 44);have bx:=Blk.new (w.alloc (.cells r.cells 32)) 44 x.cells;rw [Au0] at bx;have f0:Fr Non w ((w.alloc (.cells r.cells 32)).alloc (.cells x.cells 44)):=((Fr.refl Non w).alloc _).alloc _;have g1:Hid (r.cells[1]? =some (.slice r.lA r.l.length r.lC)):=rfl;have g4:Hid (r.cells[4]? =some (.slice r.nA r.l.length r.nC)):=rfl;have x0:Hid (x.cells[0]? =some (.int .i64 x.by_)):=rfl;have x2:Hid (x.cells[2]? =some (.int .i64 x.kind)):=rfl;have x3:Hid (x.cells[3]? =some (.int .i64 x.at_)):=rfl;have x4:Hid (x.cells[4]? =some (.slice x.pastA x.past.length x.pastC)):=rfl;have ed:Hid (x.cells[25]? =some (.int .u64 (x.r:Int))):=rfl;have eg:Hid (x.cells[26]? =some (.int .u64 (x.s:Int))):=rfl;have bz:(zp.info? 44).map (·.size)=some x.cells.size:=by rw [show x.cells.size=27 from rfl];kernel_rfl
 have hl:=Bk (P:=zp) w.heap.size 32 underlying32 rfl (cs:=r.cells) Cx;have ek:=Bk (P:=zp) (w.heap.size+1) 44 underlying44 rfl bz;have cz:=lh (fun (w':World) (hf:Fr Non w w')=>Ai0 x w' (OpL.frame hat hf) hok);obtain ⟨nm,co⟩:∃nm,x.op.name=nm:=⟨_,rfl⟩;have dn:=lh (fun (w':World) (hf:Fr Non w w')=>Rz x nm co w' (OpL.frame hat hf) hok);have cd:=lh (fun (id:Id) (w':World) (hf:Fr Non w w')=>Ht base r id w' (h.non hf));have c3:=lh (fun (w':World) (hf:Fr Non w w')=>Ah3 base r x.by_ w' (h.non hf));have cq:=lh (fun (w':World) (hf:Fr Non w w')=>Ll x w' (OpL.frame hat hf) hok);have lb:=Op.bare_len x.op hok;have cu:=lh (fun (c:Cd) (hc:c.s<18446744073709551616) (A:Option Addr) (cc:Nat) (w':World) (B:Nat) (ho:Own w' B 5 1 A x.op.bare.length cc (x.op.bare.map Bv))=>Ah6 c.s x.r x.s w'.heap.size x.op.bare.length cc A x.op.bare w' hc hok.r hok.s rfl ho.cap.1 (by omega) (Nat.le_refl _) ho.rd)
 have b8:Hid (∀(A:Option Addr) (n c:Nat) (w':World) (B:Nat),Fr Non w w'->(∀y∈x.past,∃p,plc r.l y=some p)->n=x.past.length->Own w' B 3 1 A n c ((Ao r.l x.past).map Qv)->
   Calls zp 61 #[.agg r.cells,.slice A n c] w' (Kb r.l.length (Am r.l x.past) w')):=by
  intro A n c w' B hf hp hn ho;have k:=Rx base r w'.heap.size n c A (Ao r.l x.past) w' (h.non hf) (by show _=_;rw [Hm,hn]) ho.rd (by omega);rw [Rm h.rows hp] at k;exact k
 have df:=lh (fun (w':World) (hf:Fr Non w w') (A:Option Addr) (c:Nat) (h1:1<=x.sq) (h2:x.sq<=9223372036854775807) (hr:Rd w' w'.heap.size 1 A r.l.length (C2 r.l.length (Am r.l x.past)))=>Ah2 base r x w'.heap.size c A (Am r.l x.past) w' (h.non hf) h1 h2 hr);have b4:=lh (fun (p:Nat) (hp:p<r.l.length)=>h.inAt hp)
 have af:Hid (∀i,i<r.l.length->∃(m:Pn) (b ao:Nat),r.l[i]? =some m/\r.lA=some ⟨b,ao,none⟩/\cI w b (ao+i*27+3) m.o.at_):=by
  intro i hi;obtain ⟨y,b,ao,_,h1,_,h3,_,h4⟩:=h.xAt (As7 hi);exact ⟨_,b,ao,As7 hi,h3,by rw [<- h1];exact h4 3 (by omega) _ rfl⟩
 have bv:Hid (∀id,-1<=Au r.l id/\Au r.l id<r.l.length):=fun id=>Rs r.l id;have bw:=lh h.cok;have bh:=hat.past.1
 have aa:Hid (∀(E:Int) (w':World),An r.cards r.l x.op=E->E≠0->Fr Non w w'->Hw r.cards r.l x.op w (.returned (.tuple #[.int .i64 E,.slice none 0 0])) w'):=by
  intro E w' h1 h2 h3;subst h1;exact ⟨none,0,0,rfl,fun e=>absurd e h2,h3⟩
 have ac:Hid (∀(A:Option Addr) (n c:Nat) (w':World),An r.cards r.l x.op=0->n=x.past.length->Own w' w.heap.size 3 1 A n c ((Ao r.l x.past).map Qv)->Fr Non w w'->Hw r.cards r.l x.op w (.returned (.tuple #[.int .i64 0,.slice A n c])) w'):=by
  intro A n c w' h1 h2 h3 h4;exact ⟨A,n,c,by rw [h1],fun _=>⟨h2,h3⟩,h4⟩
 have cy:Hid (x.op.chk≠0->An r.cards r.l x.op=x.op.chk):=Rf;have bl:Hid (x.op.chk=0->(plc r.l x.op.name).isSome=true->An r.cards r.l x.op=5):=Rg;have az:Hid (x.op.chk=0->plc r.l x.op.name=none->200<=r.l.length->An r.cards r.l x.op=3):=Rh;have ak:Hid (x.op.chk=0->plc r.l x.op.name=none->r.l.length<200->Cm r.cards x.by_=none->An r.cards r.l x.op=17):=Ae5;have ae:Hid (∀c,x.op.chk=0->plc r.l x.op.name=none->r.l.length<200->Cm r.cards x.by_=some c->Sg.check c.s x.op.bare x.r x.s=false->An r.cards r.l x.op=12):=fun c=>Ae6;have ad:Hid (∀c,x.op.chk=0->plc r.l x.op.name=none->r.l.length<200->Cm r.cards x.by_=some c->Sg.check c.s x.op.bare x.r x.s=true->An r.cards r.l x.op=if x.kind=1/\r.l≠[] then 1 else E3 r.l x.op):=fun c=>Ae7;have ar:Hid (∀y∈x.past,(plc r.l y).isNone=true->E3 r.l x.op=10):=fun y hy h=>Ae8 hy h;have aw:Hid ((∀y∈x.past,∃p,plc r.l y=some p)->E3 r.l x.op=Dz r.l x.op):=Ae9 (o:=x.op);have ag:Hid ((∀y∈x.past,∃p,plc r.l y=some p)->∀(a b p q:Nat) (m:Pn),(Ao r.l x.past)[a]? =some p->(Ao r.l x.past)[b]? =some q->r.l[p]? =some m->m.ps q=true->Dz r.l x.op=6):=fun hp a b p q m h1 h2 h3 h4=>Af0 (o:=x.op) b6 hp h1 h2 h3 h4;have ah:Hid ((∀y∈x.past,∃p,plc r.l y=some p)->∀(a p:Nat) (m:Pn),(Ao r.l x.past)[a]? =some p->r.l[p]? =some m->x.at_<m.o.at_->Dz r.l x.op=6):=fun hp a p m h1 h2 h3=>Af1 (o:=x.op) hp h1 h2 h3;have ab:Hid (0<=x.at_->(∀y∈x.past,∃p,plc r.l y=some p)->(∀(a b p q:Nat) (m:Pn),(Ao r.l x.past)[a]? =some p->(Ao r.l x.past)[b]? =some q->r.l[p]? =some m->m.ps q=false)->(∀(a p:Nat) (m:Pn),(Ao r.l x.past)[a]? =some p->r.l[p]? =some m->m.o.at_<=x.at_)->Dz r.l x.op=if Bm r.l (Am r.l x.past) x.op=true then 11 else 0):=fun h0 hp h1 h2=>Af2 (o:=x.op) h0 hp h1 h2;have dp:Hid (x.op.chk=0->1<=x.sq/\x.sq<=2147483647/\0<=x.at_):=R3;have a4:Hid ((Ao r.l x.past).length=x.past.length):=Hm _ _;rw [co] at bl az ak ae ad;clear co h hok hat bz;generalize Hw r.cards r.l x.op w=POST at*;generalize An r.cards r.l x.op=EE at*;generalize E3 r.l x.op=EK at*;generalize Dz r.l x.op=EP at*;generalize x.op.chk=CK at*;obtain ⟨SB,ck⟩:=Aa (Bm r.l (Am r.l x.past) x.op);rw [ck.out] at ab
 have al:Hid (∀(w':World),Fr Non w w'->∀(A:Option Addr) (c:Nat),1<=x.sq->x.sq<=9223372036854775807->Rd w' w'.heap.size 1 A r.l.length (C2 r.l.length (Am r.l x.past))->Calls zp 60 #[.agg r.cells,.agg x.cells,.slice A r.l.length c] w' (Ae (!SB) w')):=by
  rw [<- ck.out];exact df.out
 clear df ck;generalize x.op.bare=BR at*;generalize x.cells=XS at*;generalize r.cells=CS at*;generalize r.cards=CD at*;generalize r.lA=LA at*;generalize r.lC=LC at*;generalize r.nA=NA at*;generalize r.nC=NC at*;generalize r.l=l at*;obtain ⟨N,hN⟩:=Aa l.length
 have bq:Hid (l≠[]<->0<N):=by
  show _<->_;rw [<- hN.out];exact List.length_pos_iff.symm
 rw [hN.out] at g1 g4 b6 b4 af bv b8 al az ak ae ad;generalize x.pastA=PA at*;generalize x.pastC=PC at*;generalize x.past=ids at*;obtain ⟨M,hM⟩:=Aa ids.length;rw [hM.out] at x4 d0 bh a4 b8 ac;generalize x.by_=xb at*;generalize x.sq=xsq at*;generalize x.kind=xk at*;generalize x.at_=xat at*;generalize x.r=xr at*;generalize x.s=xs at*;unfold NewB at cq;unfold Ej at cu;unfold Ey at c3;unfold Ju at cz;go_enter func16,ntmps16;go_upto_region 1 with (fail)
 generalize (w.alloc (.cells CS 32)).alloc (.cells XS 44)=w0 at*;go_upto_region 2 with (go_at_call 55;(with_reducible refine (cz.out _ f0).mono ?_);rintro _ w1 ⟨rfl,f1⟩)
 replace bg:=bg.fr f1 zq;replace bx:=bx.fr f1 zq;replace f0:=f0.trans f1 zr;clear cz f1 w0
 by_cases hck:CK=0
 case neg=>
  have t:(CK !=0)=true:=by simp [hck]
  have hd:=lh (aa.out CK w1 (cy.out hck) hck f0);clear aa ac cy bl az ak ae ad ar aw ag ah ab
  as_aux_lemma=>
  go_wp2_with fail
  first|exact hd.out|(go_ret2;exact hd.out)
 case pos=>
 obtain ⟨s1,s2,s3⟩:=dp.out hck;replace bl:Hid ((plc l nm).isSome=true->EE=5):=bl.out hck;replace az:=lh (az.out hck);replace ak:=lh (ak.out hck);replace ae:=lh (fun c=>ae.out c hck);replace ad:=lh (fun c=>ad.out c hck);clear cy dp;subst hck;have B0:=bg.drew;have X0:=bx.drew;have ai:=f0.drew;have ds:=lh (fun w' hf=>cd.out nm w' hf);have dj:Hid ((plc l nm).isSome=true<->0<=Au l nm):=plcI_pos.symm
 have dg:Hid (Au l nm<0->plc l nm=none):=fun e=>by
  have:=plcI_neg.1 e
  cases hq:plc l nm with
  |none=>rfl
  |some p=>rw [hq] at this;cases this
 generalize Au l nm=P0 at*;go_upto_region 4 with (fail)
 refine wp_region_held_drew (S:=fun w'=>Blk w' w.heap.size 32 CS/\Blk w' (w.heap.size+1) 44 XS) (by kernel_rfl) ⟨B0,X0⟩ (fun hHeld=> ?_);clear hHeld;refine tkH 0 ⟨B0,X0⟩ (h:=tkH 1 ⟨B0,X0⟩ (h:=?_));simp only [zl];refine oG 2 (fun K hK=> ?_);go_simp;go_wp2_with (go_at_call 57;(with_reducible refine (dn.out _ ai).mono ?_);rintro _ v1 ⟨rfl,cj⟩;have B1:=B0.fr cj zq;have X1:=X0.fr cj zq;have ap:=ai.trans cj zr);refine hK.out _ _ ⟨B1,X1⟩ (fun hZ=> ?_);clear hZ hK K;try simp only [Ad,zl]
 refine oG 3 (fun K hK=> ?_);go_simp;go_wp2_with (go_at_call 56;(with_reducible refine (ds.out _ ap).mono ?_);rintro _ v2 ⟨rfl,ca⟩;have B2:=B1.fr ca zq;have X2:=X1.fr ca zq;have aj:=ap.trans ca zr);refine hK.out _ _ ⟨B2,X2⟩ (fun hZ=> ?_);clear hZ hK K;try simp only [Ad,zl]
 refine tkH 4 ⟨B2,X2⟩ (h:=?_);simp only [zl];refine oD ?_;go_simp;clear dn ds B0 X0 ai B1 X1 ap cj ca v1 bg bx f0 w1
 rcases At8 P0 0 with hP|hP
 case inr=>
  have t:decide (P0>=0)=true:=decide_eq_true (by omega);have t2:decide (0<=P0)=true:=decide_eq_true (by omega);have hd:=lh (aa.out 5 v2 (bl.out (dj.out.2 hP)) (by decide) aj);clear aa ac bl az ak ae ad ar aw ag ah ab
  as_aux_lemma=>
  go_wp2_with fail
  first|exact hd.out|(go_ret2;exact hd.out)
 case inl=>
 have t:decide (P0>=0)=false:=decide_eq_false (by omega);have t2:decide (0<=P0)=false:=decide_eq_false (by omega);have b1:=dg.out hP;replace az:=lh (az.out b1);replace ak:=lh (ak.out b1);replace ae:=lh (fun c=>ae.out c b1);replace ad:=lh (fun c=>ad.out c b1);clear bl dj dg b1;have c1:=(B2.cell 1).trans g1.out;go_upto_region 6 with (fail)
 clear t t2 hP
 by_cases hfull:200<=N
 case pos=>
  have t:decide ((N:Int)>=200)=true:=decide_eq_true (by omega);have t2:decide ((200:Int)<=(N:Int))=true:=decide_eq_true (by omega);have hd:=lh (aa.out 3 v2 (az.out hfull) (by decide) aj);clear aa ac az ak ae ad ar aw ag ah ab
  as_aux_lemma=>
  go_wp2_with fail
  first|exact hd.out|(go_ret2;exact hd.out)
 case neg=>
 have t:decide ((N:Int)>=200)=false:=decide_eq_false (by omega);have t2:decide ((200:Int)<=(N:Int))=false:=decide_eq_false (by omega);have a7:N<200:=by omega
 replace ak:=lh (ak.out a7);replace ae:=lh (fun c=>ae.out c a7);replace ad:=lh (fun c=>ad.out c a7);clear az hfull a7;have ef:=(X2.cell 0).trans x0.out;have bu:=lh (c3.out v2 aj);clear c3
 cases hcd:Cm CD xb
 case none=>
  rw [hcd] at bu;have hd:=lh (fun w' hf=>aa.out 17 w' (ak.out hcd) (by decide) hf);have b9:Hid (Calls zp 58 #[.agg CS,.int .i64 xb] v2 fun e w'=>e=.returned (.tuple #[.agg zC,.bool false])/\Fr Non v2 w'):=bu.out;clear aa ac ak ae ad ar aw ag ah ab bu
  as_aux_lemma=>
  go_upto_region 9 with (go_at_call 58;(with_reducible refine (b9.out).mono ?_);rintro _ v3 ⟨rfl,f3⟩)
  have dm:=lh (hd.out _ ((aj.trans f3 zr).alloc (.cells zC 104)));go_wp2_with fail
  first|exact dm.out|(go_ret2;exact dm.out)
 case some c=>
 have dd:=bw.out c (List.mem_of_find?_eq_some hcd);rw [hcd] at bu;have b9:Hid (Calls zp 58 #[.agg CS,.int .i64 xb] v2 fun e w'=>e=.returned (.tuple #[.agg #[.int .i64 c.d,.int .i64 c.m,.int .u64 (c.l:Int),.int .u64 (c.k:Int),.int .u64 (c.s:Int)],.bool true])/\Fr Non v2 w'):=bu.out;replace ae:=lh (ae.out c hcd);replace ad:=lh (ad.out c hcd);have ct:=lh (cu.out c dd);obtain ⟨sb,c8⟩:=Aa (Sg.check c.s BR xr xs);rw [c8.out] at ae ad ct;clear bu ak hcd cu dd c8 bw;go_upto_region 9 with (go_at_call 58;(with_reducible refine (b9.out).mono ?_);rintro _ v3 ⟨rfl,f3⟩)
 have f4:Fr Non v2 (v3.alloc (.cells #[.int .i64 c.d,.int .i64 c.m,.int .u64 (c.l:Int),.int .u64 (c.k:Int),.int .u64 (c.s:Int)] 104)):=f3.alloc _;have bc:=Blk.new v3 104 #[.int .i64 c.d,.int .i64 c.m,.int .u64 (c.l:Int),.int .u64 (c.k:Int),.int .u64 (c.s:Int)];have B3:=B2.fr f4 zq;have X3:=X2.fr f4 zq;have dk:=aj.trans f4 zr;obtain ⟨gc,da⟩:=Aa v3.heap.size;rw [da.out] at bc ⊢;generalize v3.alloc (.cells #[.int .i64 c.d,.int .i64 c.m,.int .u64 (c.l:Int),.int .u64 (c.k:Int),.int .u64 (c.s:Int)] 104)=v4 at*;have S0:cU v4.drew gc 4 c.s:=bc.cell 4;replace c1:cS v4 w.heap.size 1 LA N LC:=(B3.cell 1).trans g1.out;clear b9 f3 f4 da B2 X2 aj ef;go_upto_region 11 with (fail)
 clear t t2;have R0:cU v4.drew (w.heap.size+1) 25 xr:=(X3.cell 25).trans ed.out;have T0:cU v4.drew (w.heap.size+1) 26 xs:=(X3.cell 26).trans eg.out;have B0:=B3.drew;have X0:=X3.drew;have ai:=dk.drew;clear c1 bc B3 X3 dk;refine wp_region_held_drew (S:=fun w'=>Blk w' w.heap.size 32 CS/\Blk w' (w.heap.size+1) 44 XS/\cU w' gc 4 c.s/\cU w' (w.heap.size+1) 25 xr/\cU w' (w.heap.size+1) 26 xs) (by kernel_rfl) ⟨B0,X0,S0,R0,T0⟩ (fun hHeld=> ?_);clear hHeld;have uu:=aI B0 (aI X0 (aI S0 (aI R0 T0)));refine tkH 0 uu (h:=tkH 1 uu (h:=tkH 2 uu (h:=tkH 4 uu (h:=tkH 5 uu (h:=?_)))));clear uu;simp only [zl];refine oG 3 (fun K hK=> ?_);go_simp;go_wp2_with (go_at_call 54;(with_reducible refine (cq.out _ ai).mono ?_);rintro _ v1 ⟨A1,c1,rfl,c6,bm⟩;have B1:=B0.fr bm zq;have X1:=X0.fr bm zq;have S1:=bm.cell S0 zq;have R1:=bm.cell R0 zq;have T1:=bm.cell T0 zq;have ap:=ai.trans bm zr);refine hK.out _ _ ⟨B1,X1,S1,R1,T1⟩ (fun hZ=> ?_);clear hZ hK K;try simp only [Ad,zl]
 refine oG 6 (fun K hK=> ?_);go_simp;go_wp2_with (go_at_call 59;(with_reducible refine (ct.out _ _ _ _ c6).mono ?_);rintro _ v2 ⟨rfl,bj⟩;have B2:=B1.fr bj zq;have X2:=X1.fr bj zq;have S2:=bj.cell S1 zq;have R2:=bj.cell R1 zq;have T2:=bj.cell T1 zq;have aj:=ap.trans bj zr);refine hK.out _ _ ⟨B2,X2,S2,R2,T2⟩ (fun hZ=> ?_);clear hZ hK K;try simp only [Ad,zl]
 refine tkH 7 ⟨B2,X2,S2,R2,T2⟩ (h:=?_);simp only [zl];refine oD ?_;go_simp;clear cq ct B0 X0 ai B1 X1 ap S0 S1 S2 R0 R1 R2 T0 T1 T2 c6 bm bj v3 v1 v4
 cases sb
 case false=>
  have hd:=lh (aa.out 12 v2 (ae.out rfl) (by decide) aj);clear aa ac ae ad ar aw ag ah ab
  as_aux_lemma=>
  go_wp2_with fail
  first|exact hd.out|(go_ret2;exact hd.out)
 case true=>
 replace ad:=lh (ad.out rfl);clear ae;have c1:=(B2.cell 1).trans g1.out;have eb:=(X2.cell 2).trans x2.out;go_upto_region 14 with (fail)
 obtain ⟨kb,b5⟩:=Aa (xk==1&&decide ((0:Int)<(N:Int)))
 go_cut [55] from 47 to 55 (fun s wc=>v2=wc/\s=.bool kb)
 case first=>
  clear aa ac ad ar aw ag ah ab
  as_aux_lemma=>
  rcases zb (xk==1) with t1|t1
  ·
   have hv:Hid (decide ((0:Int)<(N:Int))=kb):=by show _=_;rw [<- b5.out,t1];rfl
   go_wp2_with fail;go_meet;exact ⟨rfl,congrArg Value.bool (by rw [<- hv.out];first|rfl|exact decide_eq_decide.2 (by omega))⟩
  ·
   have hv:Hid (false=kb):=by show _=_;rw [<- b5.out,t1];rfl
   go_wp2_with fail;go_meet;exact ⟨rfl,congrArg Value.bool hv.out⟩
 case rest=>
 obtain ⟨rfl,rfl⟩:=hcut;clear c1 eb
 cases kb
 case true=>
  have hd:=lh (aa.out 1 v2 (by
   have h1:=b5.out;rw [At2,beq_iff_eq,decide_eq_true_iff] at h1;rw [ad.out,if_pos ⟨h1.1,bq.out.2 (by omega)⟩]) (by decide) aj)
  clear aa ac ad ar aw ag ah ab
  as_aux_lemma=>
  go_wp2_with fail
  first|exact hd.out|(go_ret2;exact hd.out)
 case false=>
 replace ad:Hid (EE=EK):=by
  show _=_;have h1:=b5.out;rw [Bool.and_eq_false_iff,beq_eq_false_iff_ne,decide_eq_false_iff_not] at h1
  rw [ad.out,if_neg (fun e=>by
   rcases h1 with h1|h1
   · exact h1 e.1
   ·
    have:=bq.out.1 e.2;omega)]
 clear b5 bq;rw [<- ad.out] at ar aw;clear ad;have dl:=aj.size;have en:=B2.lt;go_upto_region 16 with (fail)
 go_wp2_with fail;generalize v2=wL at*
 go_loopw [10,11] (fun s v wr=>∃(k:Nat) (A:Option Addr) (cc:Nat),v=.int .i64 (k:Int)/\s=.slice A k cc/\k<=M/\Hid (∀y∈ids.take k,∃p,plc l y=some p)/\Own wr wL.heap.size 3 1 A k cc ((Ao l (ids.take k)).map Qv)/\Fr Non wL wr) (fun _ v _=>M-(intOf v).toNat)
 case atStart=>exact ⟨0,none,0,rfl,rfl,by omega,fun y hy=>absurd hy (by simp),Own.nil _ _ _ _,Fr.refl _ _⟩
 case round=>
  obtain ⟨k,A,cc,rfl,rfl,hk,bs,au,hf⟩:=hrel;have ax:Fr Non w wr:=aj.trans hf zr;have c5:=au.row;have c4:=((X2.fr hf zq).cell 4).trans x4.out
  by_cases a7:k<M
  ·
   obtain ⟨y,hy⟩:∃y,ids[k]? =some y:=⟨_,As7 (by rw [hM.out];exact a7)⟩;obtain ⟨b,ao,rfl,em,k0,k1,k2⟩:=Id.at (bh.fr ax zr) hy;have i1:(0:Int)<=k:=by omega
   have i2:(k:Int)<M:=by omega
   have i3:(k:Int).toNat=k:=by omega
   have B0:=(B2.fr hf zq).drew;have ai:Fr Non w wr.drew:=ax.drew;have Q0:cS wr.drew (w.heap.size+1) 4 (some ⟨b,ao,none⟩) M PC:=c4;have a8:cI wr.drew b (ao+k*3) y.b:=k0;have be:cI wr.drew b (ao+k*3+1) y.s:=k1;have bd:cU wr.drew b (ao+k*3+2) y.u:=k2;have O0:Own wr.drew wL.heap.size 3 1 A k cc ((Ao l (ids.take k)).map Qv):=au.drew;have H0:Fr Non wL wr.drew:=hf.drew;have dr:=lh (cd.out y wr.drew ai);have bf:Hid (Au l y<0->EE=10):=fun e=>ar.out y (At1 hy) (plcI_neg.1 e)
   have bk:Hid (∀p:Nat,Au l y=(p:Int)->(∀z∈ids.take (k+1),∃p,plc l z=some p)/\(Ao l (ids.take (k+1))).map Qv=(Ao l (ids.take k)).map Qv++[Qv p]):=by
    intro p hp
    have dq:plc l y=some p:=by
     unfold Au at hp
     cases hq:plc l y with
     |none=>rw [hq] at hp;dsimp only at hp;omega
     |some i=>rw [hq] at hp;dsimp only at hp;exact congrArg some (by omega)
    refine ⟨fun z hz=> ?_,by rw [Ai1 hy dq,As8];rfl⟩;rw [Dh hy] at hz
    rcases List.mem_append.1 hz with h1|h1
    · exact bs.out z h1
    ·
     rw [At3] at h1;exact ⟨p,by rw [h1];exact dq⟩
   clear hy k0 k1 k2 au hf ax cd ar aw ag ah ab b4 af bv b8 al;generalize Au l y=P at*;go_upto_region 20 with (fail)
   clear c4;refine wp_region_held_drew (S:=fun w'=>Blk w' w.heap.size 32 CS/\cS w' (w.heap.size+1) 4 (some ⟨b,ao,none⟩) M PC/\cI w' b (ao+k*3) y.b/\cI w' b (ao+k*3+1) y.s/\cU w' b (ao+k*3+2) y.u) (by kernel_rfl) ⟨B0,Q0,a8,be,bd⟩ (fun hHeld=> ?_);clear hHeld;have uu:=aI B0 (aI Q0 (aI a8 (aI be bd)));refine tkH 0 uu (h:=tkH 1 uu (h:=tkH 2 uu (h:=tkH 3 uu (h:=tkH 4 uu (h:=tkH 5 uu (h:=?_))))));clear uu;simp only [zl];refine oG 6 (fun K hK=> ?_);go_simp;go_wp2_with (go_at_call 56;(with_reducible refine (dr.out).mono ?_);rintro _ v1 ⟨rfl,a6⟩;have B1:=B0.fr a6 zq;have Q1:=a6.cell Q0 zq;have cr:=a6.cell a8 zq;have cw:=a6.cell be zq;have cx:=a6.cell bd zq;have ap:=ai.trans a6 zr;have O1:=O0.fr a6 zr;have H1:=H0.trans a6 zr);refine hK.out _ _ ⟨B1,Q1,cr,cw,cx⟩ (fun hZ=> ?_);clear hZ hK K;try simp only [Ad,zl]
   refine tkH 7 ⟨B1,Q1,cr,cw,cx⟩ (h:=?_);simp only [zl];refine oD ?_;go_simp;clear dr B0 B1 ai Q0 Q1 a8 be bd cr cw cx O0 H0 a6
   rcases At8 P 0 with hP|hP
   ·
    have t:decide (P<0)=true:=decide_eq_true hP;have hd:=lh (aa.out 10 v1 (bf.out hP) (by decide) ap);clear aa ac bf bk;go_wp2_with fail
    first|exact hd.out|(go_ret2;exact hd.out)
   ·
    obtain ⟨p,rfl⟩:∃p:Nat,P=(p:Int):=⟨P.toNat,by omega⟩;have t:decide ((p:Int)<0)=false:=decide_eq_false (by omega);obtain ⟨a0,dx⟩:=bk.out p rfl;replace a0:=lh a0;have c0:=O1.alloc (.cells #[.int .i64 (p:Int)] 3);have d5:=H1.alloc (.cells #[.int .i64 (p:Int)] 3);have d9:=Blk.new v1 3 #[.int .i64 (p:Int)];have et:=H1.size;clear bf bk aa ac;go_wp2_with (at_builtin;go_loud (refine Bg (base:=wL.heap.size) (.tmp 72) (.tmp 74) 22 rfl rfl rfl rfl Hd c0 (Rd.blk (n:=1) (size:=1) d9 rfl) (by simp [Value.oneCell']) (by omega) (by omega) (by rw [Au0];omega) ?_);intro A2 d6 w4 cv ec dv);have dy:Fr Non wL w4:=d5.trans ec (fun j hj e=>by have h5:=(c5 j e).1;omega);go_roundw
    case rel=>exact ⟨k+1,A2,d6,by go_num,rfl,by omega,a0,by rw [dx];exact cv,dy⟩
    case measure=>simp [intOf];omega
  ·
   obtain rfl:k=M:=by omega
   have a0:∀y∈ids,∃p,plc l y=some p:=by
    have h1:=bs.out;rwa [As9 (by rw [hM.out];omega)] at h1
   have ay:Own wr wL.heap.size 3 1 A k cc ((Ao l ids).map Qv):=by
    have h1:=au;rwa [As9 (by rw [hM.out];omega)] at h1
   have dt:=aw.out a0;replace ag:=ag.out a0;replace ah:=ah.out a0;replace ab:=ab.out s3 a0;rw [<- dt] at ag ah ab
   have a5:∀(a p:Nat),(Ao l ids)[a]? =some p->p<N:=fun a p ha=>by
    rw [<- hN.out];exact Ly a0 p (At1 ha)
   have a3:=lh (fun w' (hf':Fr Non w w') ho=>b8.out A k cc w' wL.heap.size hf' a0 rfl ho);replace ag:=lh ag;replace ah:=lh ah;replace ab:=lh ab;replace a5:=lh a5;clear ar aw bs au a0 dt cd b8;generalize Ao l ids=US at*;have B3:=B2.fr hf zq;have X3:=X2.fr hf zq;clear B2 X2;go_wp2_with fail;clear c4;have ej:=ax.size
   have hU:Hid (∀(a p:Nat),US[a]? =some p->a<k/\∃bU a1,A=some ⟨bU,a1,none⟩/\cI wr bU (a1+a) (p:Int)):=by
    intro a p ha
    have a7:a<k:=by
     have:=(List.getElem?_eq_some_iff.1 ha).1;rw [a4.out] at this;exact this
    obtain ⟨bU,a1,u,h1,_,h2,h3⟩:=ay.rd.at a7;rw [At7,ha] at h2;injection h2 with h2
    subst h2;exact ⟨a7,bU,a1,h1,h3⟩
   have cf:Hid (∀wz,Fr Non wr wz->cS wz w.heap.size 1 LA N LC/\cS wz w.heap.size 4 NA N NC/\cI wz (w.heap.size+1) 3 xat):=fun wz hz=>
    ⟨((B3.fr hz zq).cell 1).trans g1.out,((B3.fr hz zq).cell 4).trans g4.out,((X3.fr hz zq).cell 3).trans x3.out⟩
   obtain ⟨wM,dz⟩:∃wM:World,wM=wr:=⟨_,rfl⟩;subst dz
   go_loopw [13] (fun v wr=>∃i:Nat,v=.int .i64 (i:Int)/\i<=k/\Hid (∀(a b p q:Nat) (m:Pn),a<i->US[a]? =some p->US[b]? =some q->l[p]? =some m->m.ps q=false)/\Hid (∀(a p:Nat) (m:Pn),a<i->US[a]? =some p->l[p]? =some m->m.o.at_<=xat)/\Fr Non wM wr) (fun v _=>k-(intOf v).toNat)
   case atStart=>exact ⟨0,rfl,by omega,fun a b p q m h=>absurd h (At9 _),fun a p m h=>absurd h (At9 _),Fr.refl _ _⟩
   case round=>
    obtain ⟨i,rfl,ep,ci,bb,bt⟩:=hrel
    by_cases hi:i<k
    ·
     have i1:(0:Int)<=i:=by omega
     have i2:(i:Int)<k:=by omega
     have i3:(i:Int).toNat=i:=by omega
     obtain ⟨pi,bo⟩:∃p,US[i]? =some p:=⟨_,As7 (by rw [a4.out];exact hi)⟩;have de:=a5.out i pi bo;obtain ⟨_,bU,a1,rfl,c7⟩:=hU.out i pi bo;obtain ⟨m,A2,c2,b2,d8,hm,rfl,cm,av⟩:=b4.out pi de;obtain ⟨m',bL,d2,ce,rfl,cp⟩:=af.out pi de;rw [hm] at ce;injection ce with ce
     subst ce;have p1:(0:Int)<=pi:=by omega
     have p2:(pi:Int)<N:=by omega
     have p3:(pi:Int).toNat=pi:=by omega
     have bi:Hid (∀(b q:Nat),US[b]? =some q->m.ps q=true->EE=6):=fun b q hb hq=>ag.out i b pi q m bo hb hm hq;have a2:Hid (xat<m.o.at_->EE=6):=fun e=>ah.out i pi m bo hm e
     have bn:Hid ((∀(b q:Nat),US[b]? =some q->m.ps q=false)->∀(a b p q:Nat) (m:Pn),a<i+1->US[a]? =some p->US[b]? =some q->l[p]? =some m->m.ps q=false):=by
      intro hh a b p q m2 ha h1 h2 h3
      rcases At0 a i with h4|h4
      · exact ci.out a b p q m2 h4 h1 h2 h3
      ·
       have e:a=i:=by omega
       subst e;rw [bo] at h1;injection h1 with h1
       subst h1;rw [hm] at h3;injection h3 with h3
       subst h3;exact hh b q h2
     have ba:Hid (m.o.at_<=xat->∀(a p:Nat) (m:Pn),a<i+1->US[a]? =some p->l[p]? =some m->m.o.at_<=xat):=by
      intro hh a p m2 ha h1 h3
      rcases At0 a i with h4|h4
      · exact bb.out a p m2 h4 h1 h3
      ·
       have e:a=i:=by omega
       subst e;rw [bo] at h1;injection h1 with h1
       subst h1;rw [hm] at h3;injection h3 with h3
       subst h3;exact hh
     obtain ⟨wo,ee⟩:∃wo:World,wo=wr:=⟨_,rfl⟩;subst ee;clear ci bb hm bo b4 af ag ah;go_wp2_with fail
     go_loopw [14] (fun v wr=>∃j:Nat,v=.int .i64 (j:Int)/\j<=k/\Hid (∀(b q:Nat),b<j->US[b]? =some q->m.ps q=false)/\Fr Non wo wr) (fun v _=>k-(intOf v).toNat)
     case atStart=>exact ⟨0,rfl,by omega,fun b q h=>absurd h (At9 _),Fr.refl _ _⟩
     case round=>
      obtain ⟨j,rfl,es,bf,db⟩:=hrel;have a9:Fr Non wM wr:=bt.trans db zr;obtain ⟨d1,d4,d3⟩:=cf.out wr a9;have eo:=a9.cell c7 zq
      by_cases hj:j<k
      ·
       have j1:(0:Int)<=j:=by omega
       have j2:(j:Int)<k:=by omega
       have j3:(j:Int).toNat=j:=by omega
       obtain ⟨qj,b7⟩:∃p,US[j]? =some p:=⟨_,As7 (by rw [a4.out];exact hj)⟩;have ea:=a5.out j qj b7;obtain ⟨_,el,dh,eU,c9⟩:=hU.out j qj b7;injection eU with eU
       injection eU with e1 e2
       subst e1 e2;obtain ⟨b3,d7,rfl,dc⟩:=av qj ea;have q1:(0:Int)<=qj:=by omega
       have q2:(qj:Int)<N:=by omega
       have q3:(qj:Int).toNat=qj:=by omega
       have er:=a9.cell c9 zq;have ei:=(ax.trans a9 zr).cell cm zq;have dw:=(ax.trans a9 zr).cell dc zq;have br:=lh (bi.out j qj b7)
       have bp:Hid (m.ps qj=false->∀(b q:Nat),b<j+1->US[b]? =some q->m.ps q=false):=by
        intro hh b q hb h1
        rcases At0 b j with h4|h4
        · exact bf.out b q h4 h1
        ·
         have e:b=j:=by omega
         subst e;rw [b7] at h1;injection h1 with h1
         subst h1;exact hh
       clear bf b7 bi a2 bn ba cm dc c9 c7 cp av ab a3 al hU cf d1 d3;generalize m.ps qj=mq at*
       cases mq
       case true=>
        have hd:=lh (fun wz hz=>aa.out 6 wz (br.out rfl) (by decide) hz);have aq:Fr Non w wr:=ax.trans a9 zr;clear aa ac br bp;go_wp2_with fail
        go_quiet (fail)
        go_wp2_with fail
        first|exact hd.out _ (aq.drewN _)|(go_ret2;exact hd.out _ (aq.drewN _))
       case false=>
        have cl:=lh (bp.out rfl);clear aa ac br bp;go_wp2_with fail
        go_quiet (fail)
        go_wp2_with fail;go_roundw
        case rel=>exact ⟨j+1,by go_num,by omega,cl,db.drewN _⟩
        case measure=>simp [intOf];omega
      ·
       obtain rfl:j=k:=by omega
       have cn:=lh (bn.out (fun b q hb=>bf.out b q (hU.out b q hb).1 hb));have du:=(ax.trans a9 zr).cell cp zq;have aq:Fr Non w wr:=ax.trans a9 zr;clear bn bf bi cm cp av ab a3 al hU cf d4;generalize m.o.at_=ma at*
       rcases At8 xat ma with hla|hla
       ·
        have t:decide (xat<ma)=true:=decide_eq_true hla;have hd:=lh (fun wz hz=>aa.out 6 wz (a2.out hla) (by decide) hz);clear aa ac a2 ba;go_wp2_with fail
        go_quiet (fail)
        go_wp2_with fail
        first|exact hd.out _ (aq.drewN _)|(go_ret2;exact hd.out _ (aq.drewN _))
       ·
        have t:decide (xat<ma)=false:=decide_eq_false (by omega);have b0:=lh (ba.out hla);clear aa ac a2 ba;go_wp2_with fail
        go_quiet (fail)
        go_wp2_with fail;go_roundw
        case rel=>exact ⟨i+1,by go_num,by omega,cn,b0,a9.drewN _⟩
        case measure=>simp [intOf];omega
    ·
     obtain rfl:i=k:=by omega
     have cb:Hid (EE=if SB=true then 11 else 0):=ab.out (fun a b p q m h1 h2 h3=>ci.out a b p q m (hU.out a p h1).1 h1 h2 h3) (fun a p m h1 h3=>bb.out a p m (hU.out a p h1).1 h1 h3);have B0:=(B3.fr bt zq).drew;have X0:=(X3.fr bt zq).drew;have ai:Fr Non w wr.drew:=(ax.trans bt zr).drew;have O0:Own wr.drew wL.heap.size 3 1 A i cc (US.map Qv):=(ay.fr bt zr).drew;clear ci bb ag ah ab hU cf b4 af B3 X3 ay bt ax hf;go_upto_region 34 with (fail)
     refine wp_region_held_drew (S:=fun w'=>Blk w' w.heap.size 32 CS/\Blk w' (w.heap.size+1) 44 XS) (by kernel_rfl) ⟨B0,X0⟩ (fun hHeld=> ?_);clear hHeld;have uu:=aI B0 X0;refine tkH 0 uu (h:=tkH 1 uu (h:=tkH 2 uu (h:=tkH 3 uu (h:=?_))));clear uu;simp only [zl];refine oG 4 (fun K hK=> ?_);go_simp;go_wp2_with (go_at_call 61;(with_reducible refine (a3.out _ ai O0).mono ?_);rintro _ v1 ⟨A1,c1,rfl,di,cg⟩;have B1:=B0.fr cg zq;have X1:=X0.fr cg zq;have ap:=ai.trans cg zr;have O1:=O0.fr cg zr);refine hK.out _ _ ⟨B1,X1⟩ (fun hZ=> ?_);clear hZ hK K;try simp only [Ad,zl]
     refine oG 5 (fun K hK=> ?_);go_simp;go_wp2_with (go_at_call 60;(with_reducible refine (al.out _ ap _ _ s1 (by omega) di.rd).mono ?_);rintro _ v2 ⟨rfl,ch⟩;have B2:=B1.fr ch zq;have X2:=X1.fr ch zq;have aj:=ap.trans ch zr;have O2:=O1.fr ch zr);refine hK.out _ _ ⟨B2,X2⟩ (fun hZ=> ?_);clear hZ hK K;try simp only [Ad,zl]
     refine tkH 6 ⟨B2,X2⟩ (h:=?_);simp only [zl];refine oD ?_;go_simp;clear a3 al B0 B1 B2 X0 X1 X2 ai ap O0 O1 di;have eh:=dl
     cases SB
     case true=>
      have hd:=lh (aa.out 11 v2 (by rw [cb.out];rfl) (by decide) aj);clear aa ac cb;go_wp2_with fail
      first|exact hd.out|(go_ret2;exact hd.out)
     case false=>
      have hd:=lh (ac.out A i cc v2 (by rw [cb.out];rfl) rfl (O2.lower dl) aj);clear aa ac cb;go_wp2_with fail
      first|exact hd.out|(go_ret2;exact hd.out)
end Oq
end
section
open Go.RowKit
namespace Oq
theorem Hx:SlT zp 27 44 (.agg zO) 27 328:=⟨underlying27,by kernel_rfl,rfl,by decide⟩
theorem slIi:SlT zp 29 22 (.slice none 0 0) 1 24:=⟨underlying29,by kernel_rfl,rfl,by decide⟩
theorem slBb:SlT zp 30 108 (.slice none 0 0) 1 24:=⟨underlying30,by kernel_rfl,rfl,by decide⟩
structure KA (w wv:World) (nb:Nat) (GS XS ZS cs:Array Value):Prop where
 bg:Blk wv w.heap.size 32 GS
 bx:Blk wv (w.heap.size+1) 44 XS
 br:Blk wv (w.heap.size+2) 32 ZS
 bn:Blk wv nb 32 cs
 nb:w.heap.size+3<=nb
 fr:Fr Non w wv
theorem KA.over {S:Nat->Prop} {w wv w':World} {nb:Nat} {GS XS ZS cs:Array Value} (h:KA w wv nb GS XS ZS cs) (hf:Fr S wv w') (hS:∀k,S k->w.heap.size+3<=k) (hn:¬S nb):KA w w' nb GS XS ZS cs where
 bg:=h.bg.fr hf (fun e=>by have:=hS _ e;omega)
 bx:=h.bx.fr hf (fun e=>by have:=hS _ e;omega)
 br:=h.br.fr hf (fun e=>by have:=hS _ e;omega)
 bn:=h.bn.fr hf hn
 nb:=h.nb
 fr:=h.fr.trans hf (fun k hk e=>by have:=hS _ e;omega)
theorem KA.non {w wv w':World} {nb:Nat} {GS XS ZS cs:Array Value} (h:KA w wv nb GS XS ZS cs) (hf:Fr Non wv w'):KA w w' nb GS XS ZS cs:=h.over hf (fun _ e=>e.elim) zq
theorem KA.set {w wv:World} {nb:Nat} {GS XS ZS cs:Array Value} (h:KA w wv nb GS XS ZS cs) (i:Nat) (v:Value):KA w (wv.setCell ⟨nb,i,none⟩ v) nb GS XS ZS (cs.setIfInBounds i v) where
 bg:=h.bg.far (p:=⟨_,_,_⟩) (by have:=h.nb;show _≠nb;omega) _
 bx:=h.bx.far (p:=⟨_,_,_⟩) (by have:=h.nb;show _≠nb;omega) _
 br:=h.br.far (p:=⟨_,_,_⟩) (by have:=h.nb;show _≠nb;omega) _
 bn:=h.bn.set i v
 nb:=h.nb
 fr:=h.fr.setNew (by have:=h.nb;omega) i v
theorem Own.ne2 {w:World} {b b' size size' n n' c c':Nat} {t t':TypeId} {A A':Option Addr} {xs xs':List Value} (h:Own w b t size A n c xs) (h':Own w b' t' size' A' n' c' xs') (hne:t≠t'):∀k,Ac A=some k->Ac A'≠some k:=by
 intro k hk hk'
 rcases h.2 with ⟨hv,_⟩|⟨g,cap,cur,hv,_,hg,_⟩
 ·
  injection hv with hA
  subst hA
  cases hk
 ·
  injection hv with hA
  subst hA;injection hk with hk
  have hk2:g=k:=hk;subst hk2;exact Own.ne h' (g:=g) (t:=t) (cs:=cur) hg (fun e=>hne e.symm) hk'
theorem Own.setFar {w:World} {b size n c nb i:Nat} {t:TypeId} {A:Option Addr} {xs:List Value} {cs:Array Value} {t':TypeId} (h:Own w b t size A n c xs) (hb:Blk w nb t' cs) (hne:t≠t') (v:Value):Own (w.setCell ⟨nb,i,none⟩ v) b t size A n c xs:=
 h.setOne (h.ne hb hne)
theorem Own.grow2 {w w':World} {b b' size size' n n' c c':Nat} {t t':TypeId} {A A':Option Addr} {xs xs':List Value} (h:Own w b t size A n c xs) (h':Own w b' t' size' A' n' c' xs') (hne:t≠t') (hf:Fr (fun k=>Ac A'=some k) w w'):Own w' b t size A n c xs:=
 h.fr hf (fun k hk e=>Own.ne2 h h' hne k hk e)
theorem Gw {w w':World} (h:Fr (fun k=>Ac none=some k) w w'):Fr Non w w':=h.mono (fun _ _ e=>by cases e)
theorem Ai3 (l:List Pn) (o:Op):(Bf l o).id=o.name:=rfl
theorem Ai4 (l:List Pn) (o:Op):(Bf l o).o=o:=rfl
theorem Dc (b s:Int) (u:Nat) (hb:I64 b) (hs:I64 s) (hu:U64 u):(Id.mk b s u).ok:=⟨hb,hs,hu⟩
theorem Ai5 (r:RG) (o:Op):(r.l++[Bf r.l o]).map Pn.id=r.ids++[o.name]:=by
 unfold RG.ids;rw [As8];rfl
def RG.more (r:RG) (x:OpL) (lA:Option Addr) (lC:Nat) (iA:Option Addr) (iC:Nat) (uA:Option Addr) (uC:Nat) (nA:Option Addr) (nC:Nat) (u:UpL) (ns:List InL):RG:=
 {cA:=r.cA,cC:=r.cC,cards:=r.cards,lA:=lA,lC:=lC,xs:=r.xs++[x],iA:=iA,iC:=iC,uA:=uA,uC:=uC,us:=r.us++[u],nA:=nA,nC:=nC,ns:=ns,l:=r.l++[Bf r.l x.op]}
theorem Ai6 {w wz:World} {base:Nat} {r:RG} {x:OpL} {lA iA uA nA:Option Addr} {lC iC uC nC:Nat} {u:UpL} {ns:List InL} (h:r.own w base) (hx:x.lies w base) (hok:x.op.ok) (hf:Fr Non w wz) (hb:base<=w.heap.size+3) (he:An r.cards r.l x.op=0)
  (oL:Own wz (w.heap.size+3) 44 27 lA (r.l.length+1) lC (r.xs.flatMap (fun x=>x.cells.toList)++x.cells.toList))
  (oI:Own wz (w.heap.size+3) 38 3 iA (r.l.length+1) iC (r.ids.flatMap Id.cells++x.op.name.cells))
  (oU:Own wz (w.heap.size+3) 22 1 uA (r.l.length+1) uC (r.us.map UpL.cell++[u.cell])) (ou:u.own wz base) (hu:u.xs=Ao r.l x.op.past)
  (oN:Own wz (w.heap.size+3) 108 1 nA (r.l.length+1) nC (ns.map InL.cell)) (on:∀y∈ns,y.own wz base) (hn:ns.map InL.bs=(Dp r.l).map (· ++[false])++[Bz r.l.length (Am r.l x.op.past)++[false]]):
  (r.more x lA lC iA iC uA uC nA nC u ns).own wz base:=by
 have T:=Gp he;have hlen:(r.l++[Bf r.l x.op]).length=r.l.length+1:=by rw [List.length_append];rfl
 refine ⟨h.cards.non hf,?_,?_,?_,?_,?_,?_,?_,?_,?_,?_,?_,Rows.snoc r.l x.op h.rows he,h.cfew,h.cok⟩
 ·
  show RowAt wz base 44 27 lA (r.l++[Bf r.l x.op]).length lC ((r.xs++[x]).flatMap (fun x=>x.cells.toList));rw [hlen,Au1,Au2,Au3,List.append_nil];exact (RowAt.of_own oL).lower hb
 ·
  intro y hy
  rcases List.mem_append.1 hy with h1|h1
  · exact (h.each y h1).non hf
  ·
   rw [At3] at h1;rw [h1];exact hx.non hf
 ·
  show (r.xs++[x]).map OpL.op=(r.l++[Bf r.l x.op]).map Pn.o;rw [As8,As8,h.same];rfl
 ·
  intro n hn'
  rcases List.mem_append.1 hn' with h1|h1
  · exact h.ok n h1
  ·
   rw [At3] at h1;rw [h1,Ai4,Ai3];exact ⟨hok,Ml hok⟩
 ·
  show RowAt wz base 38 3 iA (r.l++[Bf r.l x.op]).length iC (((r.l++[Bf r.l x.op]).map Pn.id).flatMap Id.cells);rw [hlen,Ai5,Au1,Au2,Au3,List.append_nil];exact (RowAt.of_own oI).lower hb
 ·
  show RowAt wz base 22 1 uA (r.l++[Bf r.l x.op]).length uC ((r.us++[u]).map UpL.cell);rw [hlen,As8];exact (RowAt.of_own oU).lower hb
 ·
  intro y hy
  rcases List.mem_append.1 hy with h1|h1
  · exact RowAt.non (h.eachU y h1) hf
  ·
   rw [At3] at h1;rw [h1];exact ou
 ·
  show (r.us++[u]).map UpL.xs=Ft (r.l++[Bf r.l x.op]);rw [Xd h.rows T,As8,h.sameU,<- hu];rfl
 ·
  show RowAt wz base 108 1 nA (r.l++[Bf r.l x.op]).length nC (ns.map InL.cell);rw [hlen];exact (RowAt.of_own oN).lower hb
 · exact on
 ·
  show ns.map InL.bs=Dp (r.l++[Bf r.l x.op]);rw [Xe h.rows T,hn]
structure KR (b:Nat) (wv:World) (lA:Option Addr) (nL lC:Nat) (LX:List Value) (iA:Option Addr) (nI iC:Nat) (IX:List Value) (uA:Option Addr) (nU uC:Nat) (UX:List Value) (A1:Option Addr) (M c1:Nat) (UP:List Value) (A2:Option Addr) (N c2:Nat) (BX:List Value):Prop where
 oL:Own wv b 44 27 lA nL lC LX
 oI:Own wv b 38 3 iA nI iC IX
 oU:Own wv b 22 1 uA nU uC UX
 oA:Own wv b 3 1 A1 M c1 UP
 oB:Own wv b 4 1 A2 N c2 BX
section
variable {b : Nat} {wv w' : World} {lA iA uA A1 A2 : Option Addr} {nL lC nI iC nU uC M c1 N c2 : Nat} {LX IX UX UP BX : List Value}
theorem KR.non (h:KR b wv lA nL lC LX iA nI iC IX uA nU uC UX A1 M c1 UP A2 N c2 BX) (hf:Fr Non wv w'):KR b w' lA nL lC LX iA nI iC IX uA nU uC UX A1 M c1 UP A2 N c2 BX:=
 ⟨h.oL.fr hf zr,h.oI.fr hf zr,h.oU.fr hf zr,h.oA.fr hf zr,h.oB.fr hf zr⟩
theorem KR.setFar {nb i:Nat} {cs:Array Value} (h:KR b wv lA nL lC LX iA nI iC IX uA nU uC UX A1 M c1 UP A2 N c2 BX) (hb:Blk wv nb 32 cs) (v:Value):KR b (wv.setCell ⟨nb,i,none⟩ v) lA nL lC LX iA nI iC IX uA nU uC UX A1 M c1 UP A2 N c2 BX:=
 ⟨Own.setFar h.oL hb (by decide) v,Own.setFar h.oI hb (by decide) v,Own.setFar h.oU hb (by decide) v,Own.setFar h.oA hb (by decide) v,Own.setFar h.oB hb (by decide) v⟩
theorem KR.grow {b' n c:Nat} {A:Option Addr} {xs:List Value} (h:KR b wv lA nL lC LX iA nI iC IX uA nU uC UX A1 M c1 UP A2 N c2 BX) (ho:Own wv b' 108 1 A n c xs) (hf:Fr (fun k=>Ac A=some k) wv w'):KR b w' lA nL lC LX iA nI iC IX uA nU uC UX A1 M c1 UP A2 N c2 BX:=
 ⟨Own.grow2 h.oL ho (by decide) hf,Own.grow2 h.oI ho (by decide) hf,Own.grow2 h.oU ho (by decide) hf,Own.grow2 h.oA ho (by decide) hf,Own.grow2 h.oB ho (by decide) hf⟩
end
theorem InL.own.grow {w w':World} {base b' n c:Nat} {A:Option Addr} {xs:List Value} {y:InL} (h:y.own w base) (ho:Own w b' 108 1 A n c xs) (hf:Fr (fun k=>Ac A=some k) w w'):y.own w' base:=by
 refine RowAt.keepT h hf (fun k cs fr hk e=> ?_)
 rcases ho.2 with ⟨hv,_⟩|⟨g,cap,cur,hv,_,hg,_⟩
 ·
  injection hv with hA
  subst hA
  cases e
 ·
  injection hv with hA
  subst hA;injection e with e
  have e2:g=k:=e;subst e2;rw [hg] at hk;injection hk with hk
  injection hk with _ ht
  exact absurd ht (by decide)
theorem InL.own.setFar {w:World} {base nb i:Nat} {cs:Array Value} {y:InL} (h:y.own w base) (hb:Blk w nb 32 cs) (v:Value):y.own (w.setCell ⟨nb,i,none⟩ v) base:=by
 refine RowAt.keepT h ((Fr.refl (One nb) w).setOne i v) (fun k cs' fr hk e=> ?_);have e2:k=nb:=e;subst e2;have hb':w.heap[k]? =some (.cells cs 32 (0,0)):=hb;rw [hb'] at hk;injection hk with hk
 injection hk with _ ht
 exact absurd ht (by decide)
theorem R4 {w:World} {base b N c:Nat} {A:Option Addr} {bs:List Bool} (h:Own w b 4 1 A N c (bs.map Value.bool)) (hb:base<=b) (hN:bs.length=N):(InL.mk A c bs).own w base:=by
 show RowAt w base 4 1 A bs.length c (bs.map Value.bool);rw [hN];exact (RowAt.of_own h).lower hb
theorem My {A:Option Addr} {c N:Nat} {bs:List Bool} (hN:bs.length=N):(InL.mk A c bs).cell=.slice A N c:=by
 subst hN;rfl
theorem R7 (bs:List Bool):bs.map Value.bool++[Value.bool false]=(bs++[false]).map Value.bool:=by rw [As8];rfl
end Oq
end
end Go.Proofs.YtihfebhfgliojaaGreatDoor
